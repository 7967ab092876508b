/- What the functions of this seat that lie on the laws' road compute (part LC), each for every input. By AI agents. -/
import Derived.Test.YtgjicmoegmbipaaGreatProg
import Derived.KernelRfl
import Derived.Test.YtgjicmoegmbipaaGreatAbFun
import Derived.Test.YtgjicmoegmbipaaGreatLB
set_option linter.all false
set_option linter.all false
set_option maxRecDepth 20000
set_option maxHeartbeats 2000000
namespace Go.Ab
open Go.Proofs
structure GTape where
 L : List Int
 at_ : Int
instance : Inhabited GTape := ⟨⟨default, default⟩⟩
def GTape.v (x : GTape) : V := .agg [.sl (x.L.map (V.int .i64)), .int .i64 x.at_]
theorem incl_0 {b : Int} {n : Nat} : (inc 0 b n = true) = (((0 : Nat) : Int) ≤ b ∧ b ≤ (n : Int)) := propext (by rw [inc_iff]; omega)
attribute [go_sem] incl_0
attribute [go_sem] GTape.v
def F_3w (b_ : List GExposure) (k11 : Int) (a12 : GExposure) (x10 : Unit) : Option (Fl Unit Bool) :=
 chk (inb k11 b_.length) (bif (!(decide (a12.Principal = (b_.getD (k11).toNat default).Principal) && decide (a12.Time = (b_.getD (k11).toNat default).Time))) then some (.ex false) else some (.nx ()))
def F_2u (a_ : List GExposure) (b_ : List GExposure) : Option Bool :=
 bif (!decide ((a_.length : Int) = (b_.length : Int))) then some false else (forL (F_3w b_) a_ 0 ()).bind fun o => o.elim (fun x13 => some true) (fun r14 => some r14)
@[irreducible] def mc_3w : MC :=
 (sR [mo (.bin false .lss (.t 13) (.t 12)) 14]
 (.seq (.cond (.t 14)
 .skip
 (.exit 0))
 (.seq (.block 1
 (sR [oV 13 15,
 oV 15 5]
 (.seq (.regD [oV 0 16,
 oV 5 17,
 mo (.iad 2 (.t 16) (.t 17)) 18,
 mo (.ld (some 2) (.t 18)) 19,
 oV 1 20,
 oV 5 21,
 mo (.iad 2 (.t 20) (.t 21)) 22,
 mo (.ld (some 2) (.t 22)) 23,
 mo (.eqs true [0,0] (.t 19) (.t 23)) 24]
 [[],[],[0,1],[2],[],[],[4,5],[6],[3,7]]
 [[],[],[0,1],[0,1,2],[],[],[4,5],[4,5,6],[0,1,2,3,4,5,6,7]])
 (.cond (.t 24)
 (sR [mo (.mv (.c (.bool false))) 4]
 .ret)
 .skip))))
 (.reg [mo (.bin true .add (.t 13) (cI 1)) 25,
 oV 25 13]))))
def mc_2u : MC :=
 (sR [mo (.mv (.c (.bool false))) 4]
 (.seq (sR [oV 0 6,
 mo (.len false (.t 6)) 7,
 oV 1 8,
 mo (.len false (.t 8)) 9,
 mo (.bin false .neq (.t 7) (.t 9)) 10]
 (.cond (.t 10)
 (sR [mo (.mv (.c (.bool false))) 4]
 .ret)
 .skip))
 (.seq (sR [oV 0 11,
 mo (.len false (.t 11)) 12,
 oC 0 13]
 (.block 0
 (.loop mc_3w)))
 (sR [mo (.mv (.c (.bool true))) 4]
 .ret))))
theorem Wq_2u {a_ b_ : List GExposure} : Cn Tryz.prog 14 [.sl (a_.map GExposure.v), .sl (b_.map GExposure.v)] [] (F_2u a_ b_) (fun z => .bool z) (fun z => []) := fun Q Q' h hQ => by
 refine acallM mc_2u [] [] [.t 4] Tryz.func14 fun M => ?_
 unfold F_2u at h
 unfold mc_2u
 replace h := tY h
 refine tB ?_
 repeat' (first
 | (exact tZ)
 | ((first | refine oblg h ?_ | refine roomG h ?_ | refine fork h ?_ ?_ | refine forkS h ?_ ?_) <;> clear h <;> intro hc h)
 | (refine M.for1 (b := mc_3w) 13 [0,1,12] [] (fun x => []) (fun x => []) [] h ?_ ?_ ?_ <;> first
 | (clear h; intro k a x Qn K hK1 hkN1 ha1 h hf; have hl := fact_int (factsE_find (n := 12) hf.1 rfl); clear hf; have hkd := kD hkN1; have hkB1 := kB hkN1; have hkI1 := kI (k := k) (by omega); unfold F_3w at h; unfold mc_3w; replace h := tY h; refine tK ha1 hkd hkN1 hkB1 hkI1 ?_)
  |(clear h; intro x K h; replace h := And.left (And.intro h trivial); unfold mc_3w; replace h := tY h; refine tB ?_)
  |(clear h; (try refine tB ?_); exact tU0; done))
 | (simp only [ha1])
 | (refine hK1 _ ?_; (try refine tB ?_); refine ⟨_, h, ?_⟩; exact tU0; done)
 | (refine tE ?_; (first | rw [M.lok_compU] | rw [M.lokD_compU]); refine tB ?_)
 | (refine tA ?_))
def F_d (x_ : Int) (low_ : Int) (high_ : Int) : Option Bool :=
 grp ((decide (low_ ≤ x_) && decide (x_ ≤ high_))) fun b2 => some b2
@[irreducible] def mg_59 : List MOp := [gT 10 11 (.mv (.t 0)),
 gT 10 12 (.mv (.t 2)),
 gT 10 13 (.bin false .leq (.t 11) (.t 12)),
 mo (.pick (.t 10) (.t 13) (.c (.bool false))) 14]
def mc_d : MC :=
 (sR [mo (.mv (.c (.bool false))) 6]
 (.seq (.regI [.op (oV 0 7),
 .op (oV 1 8),
 .op (mo (.bin false .geq (.t 7) (.t 8)) 9),
 .op (oV 9 10),
 .grp mg_59,
 .op (oV 14 6)])
 .ret))
theorem Wq_d {x_ low_ high_ : Int} : Cn Tryz.prog 55 [.int .i64 x_, .int .i64 low_, .int .i64 high_] [] (F_d x_ low_ high_) (fun z => .bool z) (fun z => []) := fun Q Q' h hQ => by
 refine acallM mc_d [] [] [.t 6] Tryz.func55 fun M => ?_
 unfold F_d at h
 unfold mc_d
 replace h := tY h
 refine tB ?_
 repeat' (first
 | (exact tZ)
 | ((first | refine oblg h ?_ | refine roomG h ?_ | refine fork h ?_ ?_ | refine forkS h ?_ ?_) <;> clear h <;> intro hc h)
 | (refine M.gv1 (ms := mg_59) 14 [11,12,13] h ?_ ?_ <;> first
 | (clear h; intro K hK1; unfold mg_59; refine tB ?_)
 | (clear h; intro b h; replace h := tY h; refine tB ?_))
 | (refine hK1 _ ?_; exact tU; done)
 | (refine bfork (fun hc => ?_) (fun hc => ?_))
 | (refine tE ?_; (first | rw [M.lok_compU] | rw [M.lokD_compU]); refine tB ?_)
 | (refine tA ?_))
def F_3 (d_ : GDirectory) (p_ : Int) : Option Bool :=
 chk (in64 ((d_.Kinds.length : Int) - 1)) ((F_d p_ 0 ((d_.Kinds.length : Int) - 1)).bind fun y2 => some y2)
def mc_3 : MC :=
 (sR [mo (.box (.t 0)) 2,
 mo (.mv (.c (.bool false))) 4]
 (sR [oV 1 5,
 oF 0 2 6,
 oL 6 7,
 mo (.len false (.t 7)) 8,
 mo (.bin true .sub (.t 8) (cI 1)) 9,
 mo (.call (.f 55) [(.t 5), (cI 0),(.t 9)] [] []) 10,
 oV 10 4]
 .ret))
theorem Wq_3 {d_ : GDirectory} {p_ : Int} : Cn Tryz.prog 38 [GDirectory.v d_, .int .i64 p_] [] (F_3 d_ p_) (fun z => .bool z) (fun z => []) := fun Q Q' h hQ => by
 refine acallM mc_3 [] [] [.t 4] Tryz.func38 fun M => ?_
 unfold F_3 at h
 unfold mc_3
 replace h := tY h
 refine tB ?_
 repeat' (first
 | (exact tZ)
 | ((first | refine oblg h ?_ | refine roomG h ?_ | refine fork h ?_ ?_ | refine forkS h ?_ ?_) <;> clear h <;> intro hc h)
 | (obtain ⟨y, hy, h⟩ := h; have hw := Wq_d.w hy; replace hw := tY hw; (first | refine M.sC hw ?_ | refine M.sD hw ?_); clear hw hy; refine tB ?_)
 | (refine tE ?_; (first | rw [M.lok_compU] | rw [M.lokD_compU]); refine tB ?_)
 | (refine tA ?_))
def F_18 (d_ : GDirectory) (p_ : Int) : Option Bool :=
 (F_3 d_ p_).bind fun y3 => jn (α := Bool) (bif y3 then chk (inb p_ d_.Kinds.length) (some (decide ((d_.Kinds.getD (p_).toNat default) = 2))) else some false) fun j4 => some j4
@[irreducible] def mg_5a : List MOp := [gT 8 9 (.fad 0 (.t 2)),
 gT 8 10 (.ld none (.t 9)),
 gT 8 11 (.mv (.t 1)),
 gT 8 12 (.iad 1 (.t 10) (.t 11)),
 gT 8 13 (.ld none (.t 12)),
 gT 8 14 (.bin false .eql (.t 13) (cI 2)),
 mo (.pick (.t 8) (.t 14) (.c (.bool false))) 15]
def mc_18 : MC :=
 (sR [mo (.box (.t 0)) 2,
 mo (.mv (.c (.bool false))) 4]
 (.seq (.regI [.op (mo (.ld (some 2) (.t 2)) 5),
 .op (oV 1 6),
 .op (mo (.call (.f 38) [(.t 5),(.t 6)] [] []) 7),
 .op (oV 7 8),
 .grp mg_5a,
 .op (oV 15 4)])
 .ret))
theorem Wq_18 {d_ : GDirectory} {p_ : Int} : Cn Tryz.prog 56 [GDirectory.v d_, .int .i64 p_] [] (F_18 d_ p_) (fun z => .bool z) (fun z => []) := fun Q Q' h hQ => by
 refine acallM mc_18 [] [] [.t 4] Tryz.func56 fun M => ?_
 unfold F_18 at h
 unfold mc_18
 replace h := tY h
 refine tB ?_
 repeat' (first
 | (exact tZ)
 | ((first | refine oblg h ?_ | refine roomG h ?_ | refine fork h ?_ ?_ | refine forkS h ?_ ?_) <;> clear h <;> intro hc h)
 | (obtain ⟨y, hy, h⟩ := h; have hw := Wq_3.w hy; replace hw := tY hw; (first | refine M.sC hw ?_ | refine M.sD hw ?_); clear hw hy; refine tB ?_)
 | (refine M.gj1 (ms := mg_5a) [4] [] (fun y => [(15, .bool y)]) (fun y => []) h ?_ ?_ <;> first
 | (clear h; intro Qn K hK1 h; unfold mg_5a; replace h := tY h; refine tB ?_)
  |(clear h; intro y h; replace h := tY h; refine tB ?_))
 | (refine hK1 _ ?_; (try refine tB ?_); refine ⟨_, h, ?_⟩; exact tU0; done)
 | (refine tE ?_; (first | rw [M.lok_compU] | rw [M.lokD_compU]); refine tB ?_)
 | (refine tA ?_))
def F_3d (k35 : Int) (a36 : Int) (x34 : Unit) : Option (Fl Unit Bool) :=
 (F_d a36 1 3).bind fun y44 => bif (!y44) then some (.ex false) else some (.nx ())
def F_3e (d_ : GDirectory) (k177 : Int) (a178 : GMember) (x176 : Unit) : Option (Fl Unit Bool) :=
 (F_d a178.Kind 1 2).bind fun y221 => bif (!y221) then some (.ex false) else (F_d a178.Time 0 1099511627776).bind fun y222 => bif (!y222) then some (.ex false) else bif decide (0 < k177) then chk (in64 (k177 - 1)) (chk (inb (k177 - 1) d_.Events.length) (bif decide (a178.Time < (d_.Events.getD ((k177 - 1)).toNat default).Time) then some (.ex false) else (F_3 d_ a178.Principal).bind fun y223 => bif (!y223) then some (.ex false) else (F_18 d_ a178.Group).bind fun y224 => bif (!y224) then some (.ex false) else bif decide (a178.Principal = a178.Group) then some (.ex false) else some (.nx ()))) else (F_3 d_ a178.Principal).bind fun y225 => bif (!y225) then some (.ex false) else (F_18 d_ a178.Group).bind fun y226 => bif (!y226) then some (.ex false) else bif decide (a178.Principal = a178.Group) then some (.ex false) else some (.nx ())
def F_9 (d_ : GDirectory) : Option Bool :=
 grp ((decide (24 < (d_.Kinds.length : Int)) || decide (120 < (d_.Events.length : Int)))) fun b4 => bif b4 then some false else (forL F_3d d_.Kinds 0 ()).bind fun o => o.elim (fun x45 => (forL (F_3e d_) d_.Events 0 ()).bind fun o => o.elim (fun x227 => some true) (fun r228 => some r228)) (fun r46 => some r46)
@[irreducible] def mg_5b : List MOp := [gF 11 12 (.fad 1 (.t 1)),
 gF 11 13 (.ld none (.t 12)),
 gF 11 14 (.len false (.t 13)),
 gF 11 15 (.bin false .gtr (.t 14) (cI 120)),
 mo (.pick (.t 11) (.c (.bool true)) (.t 15)) 16]
@[irreducible] def mc_3d : MC :=
 (sR [mo (.bin false .lss (.t 20) (.t 19)) 21]
 (.seq (.cond (.t 21)
 .skip
 (.exit 0))
 (.seq (.block 1
 (sR [mo (.iad 1 (.t 18) (.t 20)) 22,
 oL 22 23,
 oV 23 4]
 (sR [oV 4 24,
 mo (.call (.f 55) [(.t 24), (cI 1), (cI 3)] [] []) 25,
 mo (.not (.t 25)) 26]
 (.cond (.t 26)
 (sR [mo (.mv (.c (.bool false))) 2]
 .ret)
 .skip))))
 (.reg [mo (.bin true .add (.t 20) (cI 1)) 27,
 oV 27 20]))))
@[irreducible] def mc_3e : MC :=
 (sR [mo (.bin false .lss (.t 31) (.t 30)) 32]
 (.seq (.cond (.t 32)
 .skip
 (.exit 2))
 (.seq (.block 3
 (sR [oV 31 33,
 mo (.iad 4 (.t 29) (.t 31)) 34,
 mo (.ld (some 4) (.t 34)) 35,
 mo (.alloc [(.int .i64 0),(.int .i64 0),(.int .i64 0),(.int .i64 0)]) 6,
 oV 33 5,
 ⟨.st 4 (.t 6) (.t 35), none, none⟩]
 (.seq (.regD [oF 1 6 36,
 oL 36 37,
 mo (.call (.f 55) [(.t 37), (cI 1), (cI 2)] [] []) 38,
 mo (.not (.t 38)) 39,
 oV 39 40,
 gF 40 41 (.fad 0 (.t 6)),
 gF 40 42 (.ld none (.t 41)),
 gF 40 43 (.call (.f 55) [(.t 42), (cI 0), (cI 1099511627776)] [] []),
 gF 40 44 (.not (.t 43)),
 mo (.pick (.t 40) (.c (.bool true)) (.t 44)) 45,
 oV 45 46,
 gF 46 47 (.mv (.t 5)),
 gF 46 48 (.bin false .gtr (.t 47) (cI 0)),
 gF 46 49 (.mv (.t 48)),
 gT 49 50 (.fad 0 (.t 6)),
 gT 49 51 (.ld none (.t 50)),
 gT 49 52 (.fad 1 (.t 1)),
 gT 49 53 (.ld none (.t 52)),
 gT 49 54 (.mv (.t 5)),
 gT 49 55 (.bin true .sub (.t 54) (cI 1)),
 gT 49 56 (.iad 4 (.t 53) (.t 55)),
 gT 49 57 (.fad 0 (.t 56)),
 gT 49 58 (.ld none (.t 57)),
 gT 49 59 (.bin false .lss (.t 51) (.t 58)),
 gF 46 60 (.pick (.t 49) (.t 59) (.c (.bool false))),
 mo (.pick (.t 46) (.c (.bool true)) (.t 60)) 61,
 oV 61 62,
 gF 62 63 (.ld (some 2) (.t 1)),
 gF 62 64 (.fad 2 (.t 6)),
 gF 62 65 (.ld none (.t 64)),
 gF 62 66 (.call (.f 38) [(.t 63),(.t 65)] [] []),
 gF 62 67 (.not (.t 66)),
 mo (.pick (.t 62) (.c (.bool true)) (.t 67)) 68,
 oV 68 69,
 gF 69 70 (.ld (some 2) (.t 1)),
 gF 69 71 (.fad 3 (.t 6)),
 gF 69 72 (.ld none (.t 71)),
 gF 69 73 (.call (.f 56) [(.t 70),(.t 72)] [] []),
 gF 69 74 (.not (.t 73)),
 mo (.pick (.t 69) (.c (.bool true)) (.t 74)) 75,
 oV 75 76,
 gF 76 77 (.fad 2 (.t 6)),
 gF 76 78 (.ld none (.t 77)),
 gF 76 79 (.fad 3 (.t 6)),
 gF 76 80 (.ld none (.t 79)),
 gF 76 81 (.bin false .eql (.t 78) (.t 80)),
 mo (.pick (.t 76) (.c (.bool true)) (.t 81)) 82]
 [[],[0],[1],[2],[3,2],[4],[5,4],[6,4,4],[7,4],[4,8],[9,7],[10],[11,10],[12,10,10],[13],[14,13],[13],[16,13],[13],[18,13],[17,19,13],[20,13],[21,13],[15,22,13],[13,23,10],[10,24],[25,13],[26],[26],[28,26],[27,29,26,26],[30,26],[26,31],[32,30],[33],[33],[35,33],[34,36,33,33],[37,33],[33,38],[39,37],[40],[41,40],[40],[43,40],[42,44,40],[40,45]]
 [[],[0],[0,1],[0,1,2],[0,1,2,3],[0,1,2,3,4],[0,1,2,3,4,5],[0,1,2,3,4,5,6],[0,1,2,3,4,5,6,7],[0,1,2,3,4,5,6,7,8],[0,1,2,3,4,5,6,7,8,9],[0,1,2,3,4,5,6,7,8,9,10],[0,1,2,3,4,5,6,7,8,9,10,11],[0,1,2,3,4,5,6,7,8,9,10,11,12],[0,1,2,3,4,5,6,7,8,9,10,11,12,13],[0,1,2,3,4,5,6,7,8,9,10,11,12,13,14],[0,1,2,3,4,5,6,7,8,9,10,11,12,13],[0,1,2,3,4,5,6,7,8,9,10,11,12,13,16],[0,1,2,3,4,5,6,7,8,9,10,11,12,13],[0,1,2,3,4,5,6,7,8,9,10,11,12,13,18],[0,1,2,3,4,5,6,7,8,9,10,11,12,13,16,17,18,19],[0,1,2,3,4,5,6,7,8,9,10,11,12,13,16,17,18,19,20],[0,1,2,3,4,5,6,7,8,9,10,11,12,13,16,17,18,19,20,21],[0,1,2,3,4,5,6,7,8,9,10,11,12,13,14,15,16,17,18,19,20,21,22],[0,1,2,3,4,5,6,7,8,9,10,11,12,13,14,15,16,17,18,19,20,21,22,23],[0,1,2,3,4,5,6,7,8,9,10,11,12,13,14,15,16,17,18,19,20,21,22,23,24],[0,1,2,3,4,5,6,7,8,9,10,11,12,13,14,15,16,17,18,19,20,21,22,23,24,25],[0,1,2,3,4,5,6,7,8,9,10,11,12,13,14,15,16,17,18,19,20,21,22,23,24,25,26],[0,1,2,3,4,5,6,7,8,9,10,11,12,13,14,15,16,17,18,19,20,21,22,23,24,25,26],[0,1,2,3,4,5,6,7,8,9,10,11,12,13,14,15,16,17,18,19,20,21,22,23,24,25,26,28],[0,1,2,3,4,5,6,7,8,9,10,11,12,13,14,15,16,17,18,19,20,21,22,23,24,25,26,27,28,29],[0,1,2,3,4,5,6,7,8,9,10,11,12,13,14,15,16,17,18,19,20,21,22,23,24,25,26,27,28,29,30],[0,1,2,3,4,5,6,7,8,9,10,11,12,13,14,15,16,17,18,19,20,21,22,23,24,25,26,27,28,29,30,31],[0,1,2,3,4,5,6,7,8,9,10,11,12,13,14,15,16,17,18,19,20,21,22,23,24,25,26,27,28,29,30,31,32],[0,1,2,3,4,5,6,7,8,9,10,11,12,13,14,15,16,17,18,19,20,21,22,23,24,25,26,27,28,29,30,31,32,33],[0,1,2,3,4,5,6,7,8,9,10,11,12,13,14,15,16,17,18,19,20,21,22,23,24,25,26,27,28,29,30,31,32,33],[0,1,2,3,4,5,6,7,8,9,10,11,12,13,14,15,16,17,18,19,20,21,22,23,24,25,26,27,28,29,30,31,32,33,35],[0,1,2,3,4,5,6,7,8,9,10,11,12,13,14,15,16,17,18,19,20,21,22,23,24,25,26,27,28,29,30,31,32,33,34,35,36],[0,1,2,3,4,5,6,7,8,9,10,11,12,13,14,15,16,17,18,19,20,21,22,23,24,25,26,27,28,29,30,31,32,33,34,35,36,37],[0,1,2,3,4,5,6,7,8,9,10,11,12,13,14,15,16,17,18,19,20,21,22,23,24,25,26,27,28,29,30,31,32,33,34,35,36,37,38],[0,1,2,3,4,5,6,7,8,9,10,11,12,13,14,15,16,17,18,19,20,21,22,23,24,25,26,27,28,29,30,31,32,33,34,35,36,37,38,39],[0,1,2,3,4,5,6,7,8,9,10,11,12,13,14,15,16,17,18,19,20,21,22,23,24,25,26,27,28,29,30,31,32,33,34,35,36,37,38,39,40],[0,1,2,3,4,5,6,7,8,9,10,11,12,13,14,15,16,17,18,19,20,21,22,23,24,25,26,27,28,29,30,31,32,33,34,35,36,37,38,39,40,41],[0,1,2,3,4,5,6,7,8,9,10,11,12,13,14,15,16,17,18,19,20,21,22,23,24,25,26,27,28,29,30,31,32,33,34,35,36,37,38,39,40],[0,1,2,3,4,5,6,7,8,9,10,11,12,13,14,15,16,17,18,19,20,21,22,23,24,25,26,27,28,29,30,31,32,33,34,35,36,37,38,39,40,43],[0,1,2,3,4,5,6,7,8,9,10,11,12,13,14,15,16,17,18,19,20,21,22,23,24,25,26,27,28,29,30,31,32,33,34,35,36,37,38,39,40,41,42,43,44],[0,1,2,3,4,5,6,7,8,9,10,11,12,13,14,15,16,17,18,19,20,21,22,23,24,25,26,27,28,29,30,31,32,33,34,35,36,37,38,39,40,41,42,43,44,45]])
 (.cond (.t 82)
 (sR [mo (.mv (.c (.bool false))) 2]
 .ret)
 .skip))))
 (.reg [mo (.bin true .add (.t 31) (cI 1)) 83,
 oV 83 31]))))
def mc_9 : MC :=
 (sR [mo (.box (.t 0)) 1,
 mo (.mv (.c (.bool false))) 2]
 (.seq (.seq (.regI [.op (oF 0 1 7),
 .op (oL 7 8),
 .op (mo (.len false (.t 8)) 9),
 .op (mo (.bin false .gtr (.t 9) (cI 24)) 10),
 .op (oV 10 11),
 .grp mg_5b])
 (.cond (.t 16)
 (sR [mo (.mv (.c (.bool false))) 2]
 .ret)
 .skip))
 (.seq (.seq (.note (.gc [1,41,42,43,44,47,48,49,50,51,52,53,54,55,56,57,58,59,60,63,64,65,66,67,70,71,72,73,74,77,78,79,80,81]) (.reg [oF 0 1 17,
 oL 17 18,
 mo (.len false (.t 18)) 19,
 oC 0 20]))
 (.block 0
 (.loop mc_3d)))
 (.seq (sR [oF 1 1 28,
 oL 28 29,
 mo (.len false (.t 29)) 30,
 oC 0 31]
 (.block 2
 (.loop mc_3e)))
 (sR [mo (.mv (.c (.bool true))) 2]
 .ret)))))
theorem Wq_9 {d_ : GDirectory} : Cn Tryz.prog 33 [GDirectory.v d_] [] (F_9 d_) (fun z => .bool z) (fun z => []) := fun Q Q' h hQ => by
 refine acallM mc_9 [] [] [.t 2] Tryz.func33 fun M => ?_
 unfold F_9 at h
 unfold mc_9
 replace h := tY h
 refine tB ?_
 repeat' (first
 | (exact tZ)
 | ((first | refine oblg h ?_ | refine roomG h ?_ | refine fork h ?_ ?_ | refine forkS h ?_ ?_) <;> clear h <;> intro hc h)
 | (obtain ⟨y, hy, h⟩ := h; (first | with_reducible first | have hw := Wq_d.w hy | have hw := Wq_3.w hy | have hw := Wq_18.w hy); replace hw := tY hw; (first | refine M.sC hw ?_ | refine M.sD hw ?_); clear hw hy; refine tB ?_)
 | (refine M.for1 (b := mc_3d) 20 [1,18,19] [1] (fun x => []) (fun x => []) [] h ?_ ?_ ?_ <;> first
 | (clear h; intro k a x Qn K hK1 hkN1 ha1 h hf; have hl := fact_int (factsE_find (n := 19) hf.1 rfl); clear hf; have hkd := kD hkN1; have hkB1 := kB hkN1; have hkI1 := kI (k := k) (by omega); unfold F_3d at h; unfold mc_3d; replace h := tY h; refine tK ha1 hkd hkN1 hkB1 hkI1 ?_)
  |(clear h; intro x K h; replace h := And.left (And.intro h trivial); unfold mc_3d; replace h := tY h; refine tB ?_)
  |(clear h; (try refine tB ?_); exact tU0; done))
 | (refine M.for1 (b := mc_3e) 31 [1,29,30] [1] (fun x => []) (fun x => []) [] h ?_ ?_ ?_ <;> first
 | (clear h; intro k a x Qn K hK2 hkN2 ha2 h hf; have hl := fact_int (factsE_find (n := 30) hf.1 rfl); clear hf; have hkd := kD hkN2; have hkB2 := kB hkN2; have hkI2 := kI (k := k) (by omega); unfold F_3e at h; unfold mc_3e; replace h := tY h; refine tK ha2 hkd hkN2 hkB2 hkI2 ?_)
  |(clear h; intro x K h; replace h := And.left (And.intro h trivial); unfold mc_3e; replace h := tY h; refine tB ?_)
  |(clear h; (try refine tB ?_); exact tU0; done))
 | (refine M.gv1 (ms := mg_5b) 16 [12,13,14,15] h ?_ ?_ <;> first
 | (clear h; intro K hK3; unfold mg_5b; refine tB ?_)
 | (clear h; intro b h; replace h := tY h; refine tB ?_))
 | (first | simp only [ha1] | simp only [ha2])
 | ((first | refine hK1 _ ?_ | refine hK2 _ ?_); (try refine tB ?_); refine ⟨_, h, ?_⟩; exact tU0; done)
 | (refine hK3 _ ?_; exact tU; done)
 | (refine bfork (fun hc => ?_) (fun hc => ?_))
 | (refine tE ?_; (first | rw [M.lok_compU] | rw [M.lokD_compU]); refine tB ?_)
 | (refine tA ?_))
def F_6 (x_ : Int) (low_ : Int) (high_ : Int) : Option Bool :=
 grp ((decide (low_ ≤ x_) && decide (x_ ≤ high_))) fun b2 => some b2
@[irreducible] def mg_5c : List MOp := [gT 10 11 (.mv (.t 0)),
 gT 10 12 (.mv (.t 2)),
 gT 10 13 (.bin false .leq (.t 11) (.t 12)),
 mo (.pick (.t 10) (.t 13) (.c (.bool false))) 14]
def mc_6 : MC :=
 (sR [mo (.mv (.c (.bool false))) 6]
 (.seq (.regI [.op (oV 0 7),
 .op (oV 1 8),
 .op (mo (.bin false .geq (.t 7) (.t 8)) 9),
 .op (oV 9 10),
 .grp mg_5c,
 .op (oV 14 6)])
 .ret))
theorem Wq_6 {x_ low_ high_ : Int} : Cn Tryz.prog 54 [.int .i64 x_, .int .i64 low_, .int .i64 high_] [] (F_6 x_ low_ high_) (fun z => .bool z) (fun z => []) := fun Q Q' h hQ => by
 refine acallM mc_6 [] [] [.t 6] Tryz.func54 fun M => ?_
 unfold F_6 at h
 unfold mc_6
 replace h := tY h
 refine tB ?_
 repeat' (first
 | (exact tZ)
 | ((first | refine oblg h ?_ | refine roomG h ?_ | refine fork h ?_ ?_ | refine forkS h ?_ ?_) <;> clear h <;> intro hc h)
 | (refine M.gv1 (ms := mg_5c) 14 [11,12,13] h ?_ ?_ <;> first
 | (clear h; intro K hK1; unfold mg_5c; refine tB ?_)
 | (clear h; intro b h; replace h := tY h; refine tB ?_))
 | (refine hK1 _ ?_; exact tU; done)
 | (refine bfork (fun hc => ?_) (fun hc => ?_))
 | (refine tE ?_; (first | rw [M.lok_compU] | rw [M.lokD_compU]); refine tB ?_)
 | (refine tA ?_))
def F_20 (a_ : GEstate) (x_ : GAccess) : Option Bool :=
 (F_6 x_.Time 0 1099511627776).bind fun y7 => bif (!y7) then some false else chk (in64 (a_.Places - 1)) ((F_6 x_.Place 0 (a_.Places - 1)).bind fun y8 => bif (!y8) then some false else jn (α := Bool) (bif decide (x_.Kind = 1) then some true else some (decide (x_.Kind = 2))) fun j29 => bif j29 then jn (α := Bool) (bif (decide (x_.Time = x_.Time) && (decide (x_.Kind = x_.Kind) && (decide (x_.Place = x_.Place) && (decide (x_.Principal = x_.Principal) && (decide (x_.Until = 0) && (decide (x_.Content = 0) && decide (x_.From = 0))))))) then (F_6 x_.Principal 0 23).bind fun y33 => some y33 else some false) fun j34 => some j34 else bif decide (x_.Kind = 3) then grp (((decide (x_.Time = x_.Time) && (decide (x_.Kind = x_.Kind) && (decide (x_.Place = x_.Place) && (decide (x_.Principal = 0) && (decide (x_.Until = x_.Until) && (decide (x_.Content = 0) && decide (x_.From = 0))))))) && decide (x_.Time < x_.Until))) fun b37 => grp ((b37 && decide (x_.Until ≤ 1099511627776))) fun b38 => some b38 else bif decide (x_.Kind = 4) then some (decide (x_.Time = x_.Time) && (decide (x_.Kind = x_.Kind) && (decide (x_.Place = x_.Place) && (decide (x_.Principal = 0) && (decide (x_.Until = 0) && (decide (x_.Content = 0) && decide (x_.From = 0))))))) else jn (α := Bool) (bif decide (x_.Kind = 5) then some true else some (decide (x_.Kind = 6))) fun j39 => bif j39 then jn (α := Bool) (bif (decide (x_.Time = x_.Time) && (decide (x_.Kind = x_.Kind) && (decide (x_.Place = x_.Place) && (decide (x_.Principal = 0) && (decide (x_.Until = 0) && (decide (x_.Content = x_.Content) && decide (x_.From = 0))))))) then (F_6 x_.Content 0 63).bind fun y43 => some y43 else some false) fun j44 => some j44 else bif decide (x_.Kind = 7) then jn (α := Bool) (bif (decide (x_.Time = x_.Time) && (decide (x_.Kind = x_.Kind) && (decide (x_.Place = x_.Place) && (decide (x_.Principal = 0) && (decide (x_.Until = 0) && (decide (x_.Content = 0) && decide (x_.From = x_.From))))))) then chk (in64 (a_.Places - 1)) ((F_6 x_.From 0 (a_.Places - 1)).bind fun y49 => some y49) else some false) fun j50 => grp ((j50 && (!decide (x_.From = x_.Place)))) fun b51 => some b51 else some false)
@[irreducible] def mg_5d : List MOp := [gT 37 38 (.fad 3 (.t 3)),
 gT 37 39 (.ld none (.t 38)),
 gT 37 40 (.call (.f 54) [(.t 39), (cI 0), (cI 23)] [] []),
 mo (.pick (.t 37) (.t 40) (.c (.bool false))) 41]
@[irreducible] def mg_5e : List MOp := [gT 50 51 (.fad 4 (.t 3)),
 gT 50 52 (.ld none (.t 51)),
 gT 50 53 (.fad 0 (.t 3)),
 gT 50 54 (.ld none (.t 53)),
 gT 50 55 (.bin false .gtr (.t 52) (.t 54)),
 mo (.pick (.t 50) (.t 55) (.c (.bool false))) 56]
@[irreducible] def mg_5f : List MOp := [gT 57 58 (.fad 4 (.t 3)),
 gT 57 59 (.ld none (.t 58)),
 gT 57 60 (.bin false .leq (.t 59) (cI 1099511627776)),
 mo (.pick (.t 57) (.t 60) (.c (.bool false))) 61]
@[irreducible] def mg_5g : List MOp := [gT 76 77 (.fad 5 (.t 3)),
 gT 76 78 (.ld none (.t 77)),
 gT 76 79 (.call (.f 54) [(.t 78), (cI 0), (cI 63)] [] []),
 mo (.pick (.t 76) (.t 79) (.c (.bool false))) 80]
@[irreducible] def mg_5h : List MOp := [gT 89 90 (.fad 6 (.t 3)),
 gT 89 91 (.ld none (.t 90)),
 gT 89 92 (.fad 0 (.t 2)),
 gT 89 93 (.ld none (.t 92)),
 gT 89 94 (.bin true .sub (.t 93) (cI 1)),
 gT 89 95 (.call (.f 54) [(.t 91), (cI 0),(.t 94)] [] []),
 mo (.pick (.t 89) (.t 95) (.c (.bool false))) 96]
@[irreducible] def mg_5i : List MOp := [gT 97 98 (.fad 6 (.t 3)),
 gT 97 99 (.ld none (.t 98)),
 gT 97 100 (.fad 2 (.t 3)),
 gT 97 101 (.ld none (.t 100)),
 gT 97 102 (.bin false .neq (.t 99) (.t 101)),
 mo (.pick (.t 97) (.t 102) (.c (.bool false))) 103]
@[irreducible] def mc_5j : MC :=
 (.cond (.t 67)
 (sR [oF 5 3 70,
 oL 70 71,
 oF 5 5 72,
 ⟨.st 1 (.t 72) (.t 71), none, none⟩]
 (.seq (.regI [.op (mo (.ld (some 7) (.t 3)) 73),
 .op (mo (.ld (some 7) (.t 5)) 74),
 .op (mo (.eqs false [0,0,0,0,0,0,0] (.t 73) (.t 74)) 75),
 .op (oV 75 76),
 .grp mg_5g,
 .op (oV 80 4)])
 .ret))
 (sR [mo (.bin false .eql (.t 27) (cI 7)) 82,
 oV 82 81]
 (.cond (.t 81)
 (sR [oF 6 3 83,
 oL 83 84,
 oF 6 5 85,
 ⟨.st 1 (.t 85) (.t 84), none, none⟩]
 (.seq (.regI [.op (mo (.ld (some 7) (.t 3)) 86),
 .op (mo (.ld (some 7) (.t 5)) 87),
 .op (mo (.eqs false [0,0,0,0,0,0,0] (.t 86) (.t 87)) 88),
 .op (oV 88 89),
 .grp mg_5h,
 .op (oV 96 97),
 .grp mg_5i,
 .op (oV 103 4)])
 .ret))
 .skip)))
@[irreducible] def mc_5k : MC :=
 (.cond (.t 28)
 (sR [oF 3 3 31,
 oL 31 32,
 oF 3 5 33,
 ⟨.st 1 (.t 33) (.t 32), none, none⟩]
 (.seq (.regI [.op (mo (.ld (some 7) (.t 3)) 34),
 .op (mo (.ld (some 7) (.t 5)) 35),
 .op (mo (.eqs false [0,0,0,0,0,0,0] (.t 34) (.t 35)) 36),
 .op (oV 36 37),
 .grp mg_5d,
 .op (oV 41 4)])
 .ret))
 (sR [mo (.bin false .eql (.t 27) (cI 3)) 43,
 oV 43 42]
 (.cond (.t 42)
 (sR [oF 4 3 44,
 oL 44 45,
 oF 4 5 46,
 ⟨.st 1 (.t 46) (.t 45), none, none⟩]
 (.seq (.note (.gc [3,5,51,52,53,54,55,58,59,60]) (.regI [.op (mo (.ld (some 7) (.t 3)) 47),
 .op (mo (.ld (some 7) (.t 5)) 48),
 .op (mo (.eqs false [0,0,0,0,0,0,0] (.t 47) (.t 48)) 49),
 .op (oV 49 50),
 .grp mg_5e,
 .op (oV 56 57),
 .grp mg_5f,
 .op (oV 61 4)]))
 .ret))
 (sR [mo (.bin false .eql (.t 27) (cI 4)) 63,
 oV 63 62]
 (.cond (.t 62)
 (sR [mo (.ld (some 7) (.t 3)) 64,
 mo (.ld (some 7) (.t 5)) 65,
 mo (.eqs false [0,0,0,0,0,0,0] (.t 64) (.t 65)) 66,
 oV 66 4]
 .ret)
 (.cut (sR [mo (.bin false .eql (.t 27) (cI 5)) 68,
 oV 68 67]
 (.cond (.t 67)
 .skip
 (.reg [mo (.bin false .eql (.t 27) (cI 6)) 69,
 oV 69 67])))
 mc_5j))))))
def mc_20 : MC :=
 (sR [mo (.box (.t 0)) 2,
 mo (.box (.t 1)) 3,
 mo (.mv (.c (.bool false))) 4]
 (.seq (sR [oF 0 3 6,
 oL 6 7,
 mo (.call (.f 54) [(.t 7), (cI 0), (cI 1099511627776)] [] []) 8,
 mo (.not (.t 8)) 9,
 oV 9 10,
 gF 10 11 (.fad 2 (.t 3)),
 gF 10 12 (.ld none (.t 11)),
 gF 10 13 (.fad 0 (.t 2)),
 gF 10 14 (.ld none (.t 13)),
 gF 10 15 (.bin true .sub (.t 14) (cI 1)),
 gF 10 16 (.call (.f 54) [(.t 12), (cI 0),(.t 15)] [] []),
 gF 10 17 (.not (.t 16)),
 mo (.pick (.t 10) (.c (.bool true)) (.t 17)) 18]
 (.cond (.t 18)
 (sR [mo (.mv (.c (.bool false))) 4]
 .ret)
 .skip))
 (.seq (.note (.gc [2,3,38,39,40,51,52,53,54,55,58,59,60,77,78,79,90,91,92,93,94,95,98,99,100,101,102]) (.reg [oF 0 3 19,
 oL 19 20,
 oF 1 3 21,
 oL 21 22,
 oF 2 3 23,
 oL 23 24,
 mo (.build [(.int .i64 0),(.int .i64 0),(.int .i64 0),(.int .i64 0),(.int .i64 0),(.int .i64 0),(.int .i64 0)] [(0,1,(.t 20)), (1,1,(.t 22)), (2,1,(.t 24))]) 25,
 mo (.alloc [(.int .i64 0),(.int .i64 0),(.int .i64 0),(.int .i64 0),(.int .i64 0),(.int .i64 0),(.int .i64 0)]) 5,
 ⟨.st 7 (.t 5) (.t 25), none, none⟩]))
 (.seq (sR [oF 1 3 26,
 oL 26 27]
 (.block 0
 (.cut (sR [mo (.bin false .eql (.t 27) (cI 1)) 29,
 oV 29 28]
 (.cond (.t 28)
 .skip
 (.reg [mo (.bin false .eql (.t 27) (cI 2)) 30,
 oV 30 28])))
 mc_5k)))
 (sR [mo (.mv (.c (.bool false))) 4]
 .ret)))))
theorem Wq_20 {a_ : GEstate} {x_ : GAccess} : Cn Tryz.prog 84 [GEstate.v a_, GAccess.v x_] [] (F_20 a_ x_) (fun z => .bool z) (fun z => []) := fun Q Q' h hQ => by
 refine acallM mc_20 [] [] [.t 4] Tryz.func84 fun M => ?_
 unfold F_20 at h
 unfold mc_20
 replace h := tY h
 refine tB ?_
 repeat' (first
 | (exact tZ)
 | ((first | refine oblg h ?_ | refine roomG h ?_ | refine fork h ?_ ?_ | refine forkS h ?_ ?_) <;> clear h <;> intro hc h)
 | (obtain ⟨y, hy, h⟩ := h; have hw := Wq_6.w hy; replace hw := tY hw; (first | refine M.sC hw ?_ | refine M.sD hw ?_); clear hw hy; refine tB ?_)
 | (refine M.gj1 (ms := mg_5d) [] [] (fun y => [(41, .bool y)]) (fun y => []) h ?_ ?_ <;> first
 | (clear h; intro Qn K hK1 h; unfold mg_5d; replace h := tY h; refine tB ?_)
  |(clear h; intro y h; replace h := tY h; refine tB ?_))
 | (refine M.gv1 (ms := mg_5f) 61 [58,59,60] h ?_ ?_ <;> first
 | (clear h; intro K hK2; unfold mg_5f; refine tB ?_)
 | (clear h; intro b h; replace h := tY h; refine tB ?_))
 | (refine M.gv1 (ms := mg_5e) 56 [51,52,53,54,55] h ?_ ?_ <;> first
 | (clear h; intro K hK3; unfold mg_5e; refine tB ?_)
 | (clear h; intro b h; replace h := tY h; refine tB ?_))
 | (refine M.gj1 (ms := mg_5g) [] [] (fun y => [(80, .bool y)]) (fun y => []) h ?_ ?_ <;> first
 | (clear h; intro Qn K hK4 h; unfold mg_5g; replace h := tY h; refine tB ?_)
  |(clear h; intro y h; replace h := tY h; refine tB ?_))
 | (refine M.gv1 (ms := mg_5i) 103 [98,99,100,101,102] h ?_ ?_ <;> first
 | (clear h; intro K hK5; unfold mg_5i; refine tB ?_)
 | (clear h; intro b h; replace h := tY h; refine tB ?_))
 | (refine M.gj1 (ms := mg_5h) [3] [3] (fun y => [(96, .bool y)]) (fun y => []) h ?_ ?_ <;> first
 | (clear h; intro Qn K hK6 h; unfold mg_5h; replace h := tY h; refine tB ?_)
  |(clear h; intro y h; replace h := tY h; refine tB ?_))
 | (refine M.jn1 (b := mc_5j) [2,3,5,27] [5,3,2] (fun y => [(67, .bool y)]) (fun y => []) [] h ?_ ?_ <;> first
 | (clear h; intro Qn K hK7 h; replace h := tY h; refine tB ?_)
  |(clear h; intro y h; unfold mc_5j; replace h := tY h; refine tB ?_))
 | (refine M.jn1 (b := mc_5k) [2,3,5,27] [5,3,2] (fun y => [(28, .bool y)]) (fun y => []) [] h ?_ ?_ <;> first
 | (clear h; intro Qn K hK8 h; replace h := tY h; refine tB ?_)
  |(clear h; intro y h; unfold mc_5k; replace h := tY h; refine tB ?_))
 | ((first | refine hK1 _ ?_ | refine hK4 _ ?_ | refine hK6 _ ?_ | refine hK7 _ ?_ | refine hK8 _ ?_); (try refine tB ?_); refine ⟨_, h, ?_⟩; exact tU0; done)
 | ((first | refine hK2 _ ?_ | refine hK3 _ ?_ | refine hK5 _ ?_); exact tU; done)
 | (refine bfork (fun hc => ?_) (fun hc => ?_))
 | (refine tE ?_; (first | rw [M.lok_compU] | rw [M.lokD_compU]); refine tB ?_)
 | (refine tA ?_))
def F_2v (a_ : GEstate) (k39 : Int) (a40 : GAccess) (x38 : Unit) : Option (Fl Unit Bool) :=
 (F_20 a_ a40).bind fun y48 => bif (!y48) then some (.ex false) else bif decide (0 < k39) then chk (in64 (k39 - 1)) (chk (inb (k39 - 1) a_.Events.length) (bif decide (a40.Time < (a_.Events.getD ((k39 - 1)).toNat default).Time) then some (.ex false) else some (.nx ()))) else some (.nx ())
def F_j (a_ : GEstate) : Option Bool :=
 (F_6 a_.Places 1 16).bind fun y7 => grp (((!y7) || decide (120 < (a_.Events.length : Int)))) fun b8 => bif b8 then some false else (forL (F_2v a_) a_.Events 0 ()).bind fun o => o.elim (fun x49 => some true) (fun r50 => some r50)
@[irreducible] def mg_5l : List MOp := [gF 9 10 (.fad 1 (.t 1)),
 gF 9 11 (.ld none (.t 10)),
 gF 9 12 (.len false (.t 11)),
 gF 9 13 (.bin false .gtr (.t 12) (cI 120)),
 mo (.pick (.t 9) (.c (.bool true)) (.t 13)) 14]
@[irreducible] def mc_2v : MC :=
 (sR [mo (.bin false .lss (.t 18) (.t 17)) 19]
 (.seq (.cond (.t 19)
 .skip
 (.exit 0))
 (.seq (.block 1
 (sR [oV 18 20,
 mo (.iad 7 (.t 16) (.t 18)) 21,
 mo (.ld (some 7) (.t 21)) 22,
 mo (.alloc [(.int .i64 0),(.int .i64 0),(.int .i64 0),(.int .i64 0),(.int .i64 0),(.int .i64 0),(.int .i64 0)]) 4,
 oV 20 3,
 ⟨.st 7 (.t 4) (.t 22), none, none⟩]
 (.seq (.regD [mo (.ld (some 2) (.t 1)) 23,
 mo (.ld (some 7) (.t 4)) 24,
 mo (.call (.f 84) [(.t 23),(.t 24)] [] []) 25,
 mo (.not (.t 25)) 26,
 oV 26 27,
 gF 27 28 (.mv (.t 3)),
 gF 27 29 (.bin false .gtr (.t 28) (cI 0)),
 gF 27 30 (.mv (.t 29)),
 gT 30 31 (.fad 0 (.t 4)),
 gT 30 32 (.ld none (.t 31)),
 gT 30 33 (.fad 1 (.t 1)),
 gT 30 34 (.ld none (.t 33)),
 gT 30 35 (.mv (.t 3)),
 gT 30 36 (.bin true .sub (.t 35) (cI 1)),
 gT 30 37 (.iad 7 (.t 34) (.t 36)),
 gT 30 38 (.fad 0 (.t 37)),
 gT 30 39 (.ld none (.t 38)),
 gT 30 40 (.bin false .lss (.t 32) (.t 39)),
 gF 27 41 (.pick (.t 30) (.t 40) (.c (.bool false))),
 mo (.pick (.t 27) (.c (.bool true)) (.t 41)) 42]
 [[],[],[0,1],[2],[3,2],[4],[5,4],[6,4,4],[7],[8,7],[7],[10,7],[7],[12,7],[11,13,7],[14,7],[15,7],[9,16,7],[7,17,4],[4,18]]
 [[],[],[0,1],[0,1,2],[0,1,2,3],[0,1,2,3,4],[0,1,2,3,4,5],[0,1,2,3,4,5,6],[0,1,2,3,4,5,6,7],[0,1,2,3,4,5,6,7,8],[0,1,2,3,4,5,6,7],[0,1,2,3,4,5,6,7,10],[0,1,2,3,4,5,6,7],[0,1,2,3,4,5,6,7,12],[0,1,2,3,4,5,6,7,10,11,12,13],[0,1,2,3,4,5,6,7,10,11,12,13,14],[0,1,2,3,4,5,6,7,10,11,12,13,14,15],[0,1,2,3,4,5,6,7,8,9,10,11,12,13,14,15,16],[0,1,2,3,4,5,6,7,8,9,10,11,12,13,14,15,16,17],[0,1,2,3,4,5,6,7,8,9,10,11,12,13,14,15,16,17,18]])
 (.cond (.t 42)
 (sR [mo (.mv (.c (.bool false))) 2]
 .ret)
 .skip))))
 (.reg [mo (.bin true .add (.t 18) (cI 1)) 43,
 oV 43 18]))))
def mc_j : MC :=
 (sR [mo (.box (.t 0)) 1,
 mo (.mv (.c (.bool false))) 2]
 (.seq (.seq (.regI [.op (oF 0 1 5),
 .op (oL 5 6),
 .op (mo (.call (.f 54) [(.t 6), (cI 1), (cI 16)] [] []) 7),
 .op (mo (.not (.t 7)) 8),
 .op (oV 8 9),
 .grp mg_5l])
 (.cond (.t 14)
 (sR [mo (.mv (.c (.bool false))) 2]
 .ret)
 .skip))
 (.seq (.seq (.note (.gc [1,28,29,30,31,32,33,34,35,36,37,38,39,40,41]) (.reg [oF 1 1 15,
 oL 15 16,
 mo (.len false (.t 16)) 17,
 oC 0 18]))
 (.block 0
 (.loop mc_2v)))
 (sR [mo (.mv (.c (.bool true))) 2]
 .ret))))
theorem Wq_j {a_ : GEstate} : Cn Tryz.prog 53 [GEstate.v a_] [] (F_j a_) (fun z => .bool z) (fun z => []) := fun Q Q' h hQ => by
 refine acallM mc_j [] [] [.t 2] Tryz.func53 fun M => ?_
 unfold F_j at h
 unfold mc_j
 replace h := tY h
 refine tB ?_
 repeat' (first
 | (exact tZ)
 | ((first | refine oblg h ?_ | refine roomG h ?_ | refine fork h ?_ ?_ | refine forkS h ?_ ?_) <;> clear h <;> intro hc h)
 | (obtain ⟨y, hy, h⟩ := h; (first | with_reducible first | have hw := Wq_6.w hy | have hw := Wq_20.w hy); replace hw := tY hw; (first | refine M.sC hw ?_ | refine M.sD hw ?_); clear hw hy; refine tB ?_)
 | (refine M.for1 (b := mc_2v) 18 [1,16,17] [1] (fun x => []) (fun x => []) [] h ?_ ?_ ?_ <;> first
 | (clear h; intro k a x Qn K hK1 hkN1 ha1 h hf; have hl := fact_int (factsE_find (n := 17) hf.1 rfl); clear hf; have hkd := kD hkN1; have hkB1 := kB hkN1; have hkI1 := kI (k := k) (by omega); unfold F_2v at h; unfold mc_2v; replace h := tY h; refine tK ha1 hkd hkN1 hkB1 hkI1 ?_)
  |(clear h; intro x K h; replace h := And.left (And.intro h trivial); unfold mc_2v; replace h := tY h; refine tB ?_)
  |(clear h; (try refine tB ?_); exact tU0; done))
 | (refine M.gv1 (ms := mg_5l) 14 [10,11,12,13] h ?_ ?_ <;> first
 | (clear h; intro K hK2; unfold mg_5l; refine tB ?_)
 | (clear h; intro b h; replace h := tY h; refine tB ?_))
 | (simp only [ha1])
 | (refine hK1 _ ?_; (try refine tB ?_); refine ⟨_, h, ?_⟩; exact tU0; done)
 | (refine hK2 _ ?_; exact tU; done)
 | (refine bfork (fun hc => ?_) (fun hc => ?_))
 | (refine tE ?_; (first | rw [M.lok_compU] | rw [M.lokD_compU]); refine tB ?_)
 | (refine tA ?_))
def F_k (d_ : GDirectory) (p_ : Int) : Option Bool :=
 (F_3 d_ p_).bind fun y3 => jn (α := Bool) (bif y3 then chk (inb p_ d_.Kinds.length) (some (!decide ((d_.Kinds.getD (p_).toNat default) = 2))) else some false) fun j4 => some j4
@[irreducible] def mg_5m : List MOp := [gT 8 9 (.fad 0 (.t 2)),
 gT 8 10 (.ld none (.t 9)),
 gT 8 11 (.mv (.t 1)),
 gT 8 12 (.iad 1 (.t 10) (.t 11)),
 gT 8 13 (.ld none (.t 12)),
 gT 8 14 (.bin false .neq (.t 13) (cI 2)),
 mo (.pick (.t 8) (.t 14) (.c (.bool false))) 15]
def mc_k : MC :=
 (sR [mo (.box (.t 0)) 2,
 mo (.mv (.c (.bool false))) 4]
 (.seq (.regI [.op (mo (.ld (some 2) (.t 2)) 5),
 .op (oV 1 6),
 .op (mo (.call (.f 38) [(.t 5),(.t 6)] [] []) 7),
 .op (oV 7 8),
 .grp mg_5m,
 .op (oV 15 4)])
 .ret))
theorem Wq_k {d_ : GDirectory} {p_ : Int} : Cn Tryz.prog 19 [GDirectory.v d_, .int .i64 p_] [] (F_k d_ p_) (fun z => .bool z) (fun z => []) := fun Q Q' h hQ => by
 refine acallM mc_k [] [] [.t 4] Tryz.func19 fun M => ?_
 unfold F_k at h
 unfold mc_k
 replace h := tY h
 refine tB ?_
 repeat' (first
 | (exact tZ)
 | ((first | refine oblg h ?_ | refine roomG h ?_ | refine fork h ?_ ?_ | refine forkS h ?_ ?_) <;> clear h <;> intro hc h)
 | (obtain ⟨y, hy, h⟩ := h; have hw := Wq_3.w hy; replace hw := tY hw; (first | refine M.sC hw ?_ | refine M.sD hw ?_); clear hw hy; refine tB ?_)
 | (refine M.gj1 (ms := mg_5m) [4] [] (fun y => [(15, .bool y)]) (fun y => []) h ?_ ?_ <;> first
 | (clear h; intro Qn K hK1 h; unfold mg_5m; replace h := tY h; refine tB ?_)
  |(clear h; intro y h; replace h := tY h; refine tB ?_))
 | (refine hK1 _ ?_; (try refine tB ?_); refine ⟨_, h, ?_⟩; exact tU0; done)
 | (refine tE ?_; (first | rw [M.lok_compU] | rw [M.lokD_compU]); refine tB ?_)
 | (refine tA ?_))
def F_2w (d_ : GDirectory) (a_ : GEstate) (content_ : Int) (p_ : Int) : Option Bool :=
 (F_9 d_).bind fun y8 => jn (α := Bool) (bif y8 then (F_j a_).bind fun y10 => some y10 else some false) fun j11 => grp ((j11 && decide (0 ≤ content_))) fun b12 => grp ((b12 && decide (content_ ≤ 63))) fun b13 => jn (α := Bool) (bif b13 then bif decide (p_ = (-1)) then some true else (F_k d_ p_).bind fun y15 => some y15 else some false) fun j16 => some j16
@[irreducible] def mg_5n : List MOp := [gT 11 12 (.ld (some 2) (.t 5)),
 gT 11 13 (.call (.f 53) [(.t 12)] [] []),
 mo (.pick (.t 11) (.t 13) (.c (.bool false))) 14]
@[irreducible] def mg_5o : List MOp := [gT 15 16 (.mv (.t 2)),
 gT 15 17 (.bin false .geq (.t 16) (cI 0)),
 mo (.pick (.t 15) (.t 17) (.c (.bool false))) 18]
@[irreducible] def mg_5p : List MOp := [gT 19 20 (.mv (.t 2)),
 gT 19 21 (.bin false .leq (.t 20) (cI 63)),
 mo (.pick (.t 19) (.t 21) (.c (.bool false))) 22]
@[irreducible] def mg_5q : List MOp := [gT 23 24 (.mv (.t 3)),
 gT 23 25 (.bin false .eql (.t 24) (cI (-1))),
 gT 23 26 (.mv (.t 25)),
 gF 26 27 (.ld (some 2) (.t 4)),
 gF 26 28 (.mv (.t 3)),
 gF 26 29 (.call (.f 19) [(.t 27),(.t 28)] [] []),
 gT 23 30 (.pick (.t 26) (.c (.bool true)) (.t 29)),
 mo (.pick (.t 23) (.t 30) (.c (.bool false))) 31]
def mc_2w : MC :=
 (sR [mo (.box (.t 0)) 4,
 mo (.box (.t 1)) 5,
 mo (.mv (.c (.bool false))) 8]
 (.seq (.regI [.op (mo (.ld (some 2) (.t 4)) 9),
 .op (mo (.call (.f 33) [(.t 9)] [] []) 10),
 .op (oV 10 11),
 .grp mg_5n,
 .op (oV 14 15),
 .grp mg_5o,
 .op (oV 18 19),
 .grp mg_5p,
 .op (oV 22 23),
 .grp mg_5q,
 .op (oV 31 8)])
 .ret))
theorem Wq_2w {d_ : GDirectory} {a_ : GEstate} {content_ p_ : Int} : Cn Tryz.prog 47 [GDirectory.v d_, GEstate.v a_, .int .i64 content_, .int .i64 p_] [] (F_2w d_ a_ content_ p_) (fun z => .bool z) (fun z => []) := fun Q Q' h hQ => by
 refine acallM mc_2w [] [] [.t 8] Tryz.func47 fun M => ?_
 unfold F_2w at h
 unfold mc_2w
 replace h := tY h
 refine tB ?_
 repeat' (first
 | (exact tZ)
 | ((first | refine oblg h ?_ | refine roomG h ?_ | refine fork h ?_ ?_ | refine forkS h ?_ ?_) <;> clear h <;> intro hc h)
 | (obtain ⟨y, hy, h⟩ := h; (first | with_reducible first | have hw := Wq_9.w hy | have hw := Wq_j.w hy | have hw := Wq_k.w hy); replace hw := tY hw; (first | refine M.sC hw ?_ | refine M.sD hw ?_); clear hw hy; refine tB ?_)
 | (refine M.gj1 (ms := mg_5q) [8] [] (fun y => [(31, .bool y)]) (fun y => []) h ?_ ?_ <;> first
 | (clear h; intro Qn K hK1 h; unfold mg_5q; replace h := tY h; refine tB ?_)
  |(clear h; intro y h; replace h := tY h; refine tB ?_))
 | (refine M.gv1 (ms := mg_5p) 22 [20,21] h ?_ ?_ <;> first
 | (clear h; intro K hK2; unfold mg_5p; refine tB ?_)
 | (clear h; intro b h; replace h := tY h; refine tB ?_))
 | (refine M.gv1 (ms := mg_5o) 18 [16,17] h ?_ ?_ <;> first
 | (clear h; intro K hK3; unfold mg_5o; refine tB ?_)
 | (clear h; intro b h; replace h := tY h; refine tB ?_))
 | (refine M.gj1 (ms := mg_5n) [2,3,4,8] [4] (fun y => [(14, .bool y)]) (fun y => []) h ?_ ?_ <;> first
 | (clear h; intro Qn K hK4 h; unfold mg_5n; replace h := tY h; refine tB ?_)
  |(clear h; intro y h; replace h := tY h; refine tB ?_))
 | ((first | refine hK1 _ ?_ | refine hK4 _ ?_); (try refine tB ?_); refine ⟨_, h, ?_⟩; exact tU0; done)
 | ((first | refine hK2 _ ?_ | refine hK3 _ ?_); exact tU; done)
 | (refine bfork (fun hc => ?_) (fun hc => ?_))
 | (refine tE ?_; (first | rw [M.lok_compU] | rw [M.lokD_compU]); refine tB ?_)
 | (refine tA ?_))
def F_v (a_ : GEstate) (content_ : Int) : Option Bool :=
 (F_j a_).bind fun y4 => grp ((y4 && decide (0 ≤ content_))) fun b5 => grp ((b5 && decide (content_ ≤ 63))) fun b6 => some b6
@[irreducible] def mg_5r : List MOp := [gT 7 8 (.mv (.t 1)),
 gT 7 9 (.bin false .geq (.t 8) (cI 0)),
 mo (.pick (.t 7) (.t 9) (.c (.bool false))) 10]
@[irreducible] def mg_5s : List MOp := [gT 11 12 (.mv (.t 1)),
 gT 11 13 (.bin false .leq (.t 12) (cI 63)),
 mo (.pick (.t 11) (.t 13) (.c (.bool false))) 14]
def mc_v : MC :=
 (sR [mo (.box (.t 0)) 2,
 mo (.mv (.c (.bool false))) 4]
 (.seq (.regI [.op (mo (.ld (some 2) (.t 2)) 5),
 .op (mo (.call (.f 53) [(.t 5)] [] []) 6),
 .op (oV 6 7),
 .grp mg_5r,
 .op (oV 10 11),
 .grp mg_5s,
 .op (oV 14 4)])
 .ret))
theorem Wq_v {a_ : GEstate} {content_ : Int} : Cn Tryz.prog 39 [GEstate.v a_, .int .i64 content_] [] (F_v a_ content_) (fun z => .bool z) (fun z => []) := fun Q Q' h hQ => by
 refine acallM mc_v [] [] [.t 4] Tryz.func39 fun M => ?_
 unfold F_v at h
 unfold mc_v
 replace h := tY h
 refine tB ?_
 repeat' (first
 | (exact tZ)
 | ((first | refine oblg h ?_ | refine roomG h ?_ | refine fork h ?_ ?_ | refine forkS h ?_ ?_) <;> clear h <;> intro hc h)
 | (obtain ⟨y, hy, h⟩ := h; have hw := Wq_j.w hy; replace hw := tY hw; (first | refine M.sC hw ?_ | refine M.sD hw ?_); clear hw hy; refine tB ?_)
 | (refine M.gv1 (ms := mg_5s) 14 [12,13] h ?_ ?_ <;> first
 | (clear h; intro K hK1; unfold mg_5s; refine tB ?_)
 | (clear h; intro b h; replace h := tY h; refine tB ?_))
 | (refine M.gv1 (ms := mg_5r) 10 [8,9] h ?_ ?_ <;> first
 | (clear h; intro K hK2; unfold mg_5r; refine tB ?_)
 | (clear h; intro b h; replace h := tY h; refine tB ?_))
 | ((first | refine hK1 _ ?_ | refine hK2 _ ?_); exact tU; done)
 | (refine bfork (fun hc => ?_) (fun hc => ?_))
 | (refine tE ?_; (first | rw [M.lok_compU] | rw [M.lokD_compU]); refine tB ?_)
 | (refine tA ?_))
def F_4 (a_ : GEstate) (place_ : Int) : Option Bool :=
 (F_j a_).bind fun y4 => jn (α := Bool) (bif y4 then chk (in64 (a_.Places - 1)) ((F_6 place_ 0 (a_.Places - 1)).bind fun y6 => some y6) else some false) fun j7 => some j7
@[irreducible] def mg_5t : List MOp := [gT 7 8 (.mv (.t 1)),
 gT 7 9 (.fad 0 (.t 2)),
 gT 7 10 (.ld none (.t 9)),
 gT 7 11 (.bin true .sub (.t 10) (cI 1)),
 gT 7 12 (.call (.f 54) [(.t 8), (cI 0),(.t 11)] [] []),
 mo (.pick (.t 7) (.t 12) (.c (.bool false))) 13]
def mc_4 : MC :=
 (sR [mo (.box (.t 0)) 2,
 mo (.mv (.c (.bool false))) 4]
 (.seq (.regI [.op (mo (.ld (some 2) (.t 2)) 5),
 .op (mo (.call (.f 53) [(.t 5)] [] []) 6),
 .op (oV 6 7),
 .grp mg_5t,
 .op (oV 13 4)])
 .ret))
theorem Wq_4 {a_ : GEstate} {place_ : Int} : Cn Tryz.prog 30 [GEstate.v a_, .int .i64 place_] [] (F_4 a_ place_) (fun z => .bool z) (fun z => []) := fun Q Q' h hQ => by
 refine acallM mc_4 [] [] [.t 4] Tryz.func30 fun M => ?_
 unfold F_4 at h
 unfold mc_4
 replace h := tY h
 refine tB ?_
 repeat' (first
 | (exact tZ)
 | ((first | refine oblg h ?_ | refine roomG h ?_ | refine fork h ?_ ?_ | refine forkS h ?_ ?_) <;> clear h <;> intro hc h)
 | (obtain ⟨y, hy, h⟩ := h; (first | with_reducible first | have hw := Wq_j.w hy | have hw := Wq_6.w hy); replace hw := tY hw; (first | refine M.sC hw ?_ | refine M.sD hw ?_); clear hw hy; refine tB ?_)
 | (refine M.gj1 (ms := mg_5t) [4] [] (fun y => [(13, .bool y)]) (fun y => []) h ?_ ?_ <;> first
 | (clear h; intro Qn K hK1 h; unfold mg_5t; replace h := tY h; refine tB ?_)
  |(clear h; intro y h; replace h := tY h; refine tB ?_))
 | (refine hK1 _ ?_; (try refine tB ?_); refine ⟨_, h, ?_⟩; exact tU0; done)
 | (refine tE ?_; (first | rw [M.lok_compU] | rw [M.lokD_compU]); refine tB ?_)
 | (refine tA ?_))
noncomputable def F_21 (a_ : GEstate) (t_ : Int) (x7 : Int) : Option (Fl Int Int) :=
 bif decide (x7 < (a_.Events.length : Int)) then chk (inb x7 a_.Events.length) (bif decide ((a_.Events.getD (x7).toNat default).Time ≤ t_) then chk (in64 (x7 + 1)) (some (.nx (x7 + 1))) else some (.ex x7)) else some (.ex x7)
noncomputable def F_l (a_ : GEstate) (t_ : Int) : Option Int :=
 (loop (F_21 a_ t_) 0).bind fun r8 => some r8
@[irreducible] def mc_21 : MC :=
 (.seq (sR [oV 5 6,
 oF 1 2 7,
 oL 7 8,
 mo (.len false (.t 8)) 9,
 mo (.bin false .lss (.t 6) (.t 9)) 10,
 oV 10 11,
 gT 11 12 (.fad 1 (.t 2)),
 gT 11 13 (.ld none (.t 12)),
 gT 11 14 (.mv (.t 5)),
 gT 11 15 (.iad 7 (.t 13) (.t 14)),
 gT 11 16 (.fad 0 (.t 15)),
 gT 11 17 (.ld none (.t 16)),
 gT 11 18 (.mv (.t 1)),
 gT 11 19 (.bin false .leq (.t 17) (.t 18)),
 mo (.pick (.t 11) (.t 19) (.c (.bool false))) 20]
 (.cond (.t 20)
 .skip
 (.exit 0)))
 (.block 1
 (.reg [oV 5 21,
 mo (.bin true .add (.t 21) (cI 1)) 22,
 oV 22 5])))
def mc_l : MC :=
 (sR [mo (.box (.t 0)) 2,
 oC 0 4]
 (sR [oC 0 5]
 (.seq (.block 0
 (.loop mc_21))
 (sR [oV 5 23,
 oV 23 4]
 .ret))))
theorem Wq_l {a_ : GEstate} {t_ : Int} : Cn Tryz.prog 32 [GEstate.v a_, .int .i64 t_] [] (F_l a_ t_) (fun z => .int .i64 z) (fun z => []) := fun Q Q' h hQ => by
 refine acallM mc_l [] [] [.t 4] Tryz.func32 fun M => ?_
 unfold F_l at h
 unfold mc_l
 replace h := tY h
 refine tB ?_
 repeat' (first
 | (exact tZ)
 | ((first | refine oblg h ?_ | refine roomG h ?_ | refine fork h ?_ ?_ | refine forkS h ?_ ?_) <;> clear h <;> intro hc h)
 | (refine M.wh1 (b := mc_21) [1,2] [2] (fun x => [(5, .int .i64 x)]) (fun x => []) [] h ?_ ?_ <;> first
 | (clear h; intro x Qn K hK1 h; unfold F_21 at h; unfold mc_21; replace h := tY h; refine tB ?_)
  |(clear h; (try refine tB ?_); exact tU0; done))
 | (refine hK1 _ ?_; (try refine tB ?_); refine ⟨_, h, ?_⟩; exact tU0; done)
 | (refine tE ?_; (first | rw [M.lok_compU] | rw [M.lokD_compU]); refine tB ?_)
 | (refine tA ?_))
noncomputable def F_3x (a_ : GEstate) (content_ : Int) (a429 : Int) (k578 : Int) (a579 : GAccess) (x577 : Unit) : Option (Fl Unit Bool) :=
 grp ((decide (a579.Kind = 6) && decide (a579.Content = content_))) fun b594 => grp ((b594 && decide (a579.Place = (a_.Events.getD (a429).toNat default).Place))) fun b595 => bif b595 then some (.ex false) else some (.nx ())
noncomputable def F_22 (a_ : GEstate) (content_ : Int) (t_ : Int) (way_ : List Int) (k428 : Int) (a429 : Int) (x427 : Unit) : Option (Fl Unit Bool) :=
 jn (α := Fl (Int × Bool × Bool × Bool × (List GAccess) × Int × Int × Int × Bool) Bool) (grp ((decide (a429 < 0) || decide ((a_.Events.length : Int) ≤ a429))) fun b554 => bif b554 then some (.ex false) else bif decide (0 < k428) then chk (in64 (k428 - 1)) (chk (inb (k428 - 1) way_.length) (bif decide (a429 ≤ (way_.getD ((k428 - 1)).toNat default)) then some (.ex false) else chk (inb a429 a_.Events.length) (bif decide (t_ < (a_.Events.getD (a429).toNat default).Time) then some (.ex false) else some (.nx (k428, decide (0 < k428), true, decide (a429 ≤ (way_.getD ((k428 - 1)).toNat default)), a_.Events, a429, (a_.Events.getD (a429).toNat default).Time, t_, decide (t_ < (a_.Events.getD (a429).toNat default).Time)))))) else chk (inb a429 a_.Events.length) (bif decide (t_ < (a_.Events.getD (a429).toNat default).Time) then some (.ex false) else some (.nx (k428, decide (0 < k428), false, false, a_.Events, a429, (a_.Events.getD (a429).toNat default).Time, t_, decide (t_ < (a_.Events.getD (a429).toNat default).Time))))) fun o => o.elim (fun j552 => chk (inb a429 a_.Events.length) (jn (α := Fl (Int × Bool × Bool × Bool) Bool) (bif decide (k428 = 0) then bif (!decide ((a_.Events.getD (a429).toNat default).Kind = 5)) then some (.ex false) else bif (!decide ((a_.Events.getD (a429).toNat default).Content = content_)) then some (.ex false) else bif decide (0 < k428) then bif (!decide ((a_.Events.getD (a429).toNat default).Kind = 7)) then some (.ex false) else chk (in64 (k428 - 1)) (chk (inb (k428 - 1) way_.length) (chk (inb (way_.getD ((k428 - 1)).toNat default) a_.Events.length) (bif (!decide ((a_.Events.getD (a429).toNat default).From = (a_.Events.getD ((way_.getD ((k428 - 1)).toNat default)).toNat default).Place)) then some (.ex false) else some (.nx (k428, decide (0 < k428), true, (!decide ((a_.Events.getD (a429).toNat default).From = (a_.Events.getD ((way_.getD ((k428 - 1)).toNat default)).toNat default).Place))))))) else some (.nx (k428, decide (0 < k428), false, false)) else bif decide (0 < k428) then bif (!decide ((a_.Events.getD (a429).toNat default).Kind = 7)) then some (.ex false) else chk (in64 (k428 - 1)) (chk (inb (k428 - 1) way_.length) (chk (inb (way_.getD ((k428 - 1)).toNat default) a_.Events.length) (bif (!decide ((a_.Events.getD (a429).toNat default).From = (a_.Events.getD ((way_.getD ((k428 - 1)).toNat default)).toNat default).Place)) then some (.ex false) else some (.nx (k428, decide (0 < k428), true, (!decide ((a_.Events.getD (a429).toNat default).From = (a_.Events.getD ((way_.getD ((k428 - 1)).toNat default)).toNat default).Place))))))) else some (.nx (k428, decide (0 < k428), false, false))) fun o => o.elim (fun j555 => (F_l a_ t_).bind fun y557 => jn (α := Int) (bif decide ((k428 + 1) < (way_.length : Int)) then chk (inb (k428 + 1) way_.length) (chk (in64 (a429 + 1)) (some (min y557 (max (way_.getD ((k428 + 1)).toNat default) (a429 + 1))))) else some y557) fun j558 => chk (in64 (a429 + 1)) (chk (in64 (a429 + 1)) (chk (inc (a429 + 1) (max j558 (a429 + 1)) a_.Events.length) ((forL (F_3x a_ content_ a429) ((a_.Events.take (((max j558 (a429 + 1))).toNat)).drop (((a429 + 1)).toNat)) 0 ()).bind fun o => o.elim (fun x596 => some (.nx ())) (fun r597 => some (.ex r597)))))) (fun r598 => some (.ex r598)))) (fun r599 => some (.ex r599))
noncomputable def F_1i (a_ : GEstate) (content_ : Int) (place_ : Int) (t_ : Int) (way_ : List Int) : Option Bool :=
 jn (α := Fl Unit Bool) ((F_v a_ content_).bind fun y14 => bif (!y14) then grp (true) fun b15 => bif b15 then some (.ex false) else some (.nx ()) else (F_4 a_ place_).bind fun y16 => grp (((!y16) || decide ((way_.length : Int) = 0))) fun b17 => bif b17 then some (.ex false) else some (.nx ())) fun o => o.elim (fun j9 => (forL (F_22 a_ content_ t_ way_) way_ 0 ()).bind fun o => o.elim (fun x600 => chk (in64 ((way_.length : Int) - 1)) (chk (inb ((way_.length : Int) - 1) way_.length) (chk (inb (way_.getD (((way_.length : Int) - 1)).toNat default) a_.Events.length) (some (decide ((a_.Events.getD ((way_.getD (((way_.length : Int) - 1)).toNat default)).toNat default).Place = place_)))))) (fun r601 => some r601)) (fun r602 => some r602)
@[irreducible] def mg_46 : List MOp := [gF 27 28 (.mv (.t 4)),
 gF 27 29 (.len false (.t 28)),
 gF 27 30 (.bin false .eql (.t 29) (cI 0)),
 mo (.pick (.t 27) (.c (.bool true)) (.t 30)) 31]
@[irreducible] def mg_5u : List MOp := [gF 41 42 (.mv (.t 12)),
 gF 41 43 (.fad 1 (.t 5)),
 gF 41 44 (.ld none (.t 43)),
 gF 41 45 (.len false (.t 44)),
 gF 41 46 (.bin false .geq (.t 42) (.t 45)),
 mo (.pick (.t 41) (.c (.bool true)) (.t 46)) 47]
@[irreducible] def mg_5v : List MOp := [gT 148 149 (.fad 5 (.t 16)),
 gT 148 150 (.ld none (.t 149)),
 gT 148 151 (.mv (.t 1)),
 gT 148 152 (.bin false .eql (.t 150) (.t 151)),
 mo (.pick (.t 148) (.t 152) (.c (.bool false))) 153]
@[irreducible] def mg_5w : List MOp := [gT 154 155 (.fad 2 (.t 16)),
 gT 154 156 (.ld none (.t 155)),
 gT 154 157 (.fad 2 (.t 13)),
 gT 154 158 (.ld none (.t 157)),
 gT 154 159 (.bin false .eql (.t 156) (.t 158)),
 mo (.pick (.t 154) (.t 159) (.c (.bool false))) 160]
@[irreducible] def mc_3x : MC :=
 (sR [mo (.bin false .lss (.t 141) (.t 140)) 142]
 (.seq (.cond (.t 142)
 .skip
 (.exit 2))
 (.seq (.block 3
 (sR [mo (.iad 7 (.t 139) (.t 141)) 143,
 mo (.ld (some 7) (.t 143)) 144,
 mo (.alloc [(.int .i64 0),(.int .i64 0),(.int .i64 0),(.int .i64 0),(.int .i64 0),(.int .i64 0),(.int .i64 0)]) 16,
 ⟨.st 7 (.t 16) (.t 144), none, none⟩]
 (.seq (.regI [.op (oF 1 16 145),
 .op (oL 145 146),
 .op (mo (.bin false .eql (.t 146) (cI 6)) 147),
 .op (oV 147 148),
 .grp mg_5v,
 .op (oV 153 154),
 .grp mg_5w])
 (.cond (.t 160)
 (sR [mo (.mv (.c (.bool false))) 10]
 .ret)
 .skip))))
 (.reg [mo (.bin true .add (.t 141) (cI 1)) 161,
 oV 161 141]))))
@[irreducible] def mc_5x : MC :=
 (sR [oF 1 5 131,
 oL 131 132,
 oV 12 133,
 mo (.bin true .add (.t 133) (cI 1)) 134,
 oV 14 135,
 oV 12 136,
 mo (.bin true .add (.t 136) (cI 1)) 137,
 mo (.mm true (.t 135) (.t 137)) 138,
 mo (.slc 7 (.t 132) (some (.t 134)) (some (.t 138))) 139,
 mo (.len false (.t 139)) 140,
 oC 0 141]
 (.block 2
 (.loop mc_3x)))
@[irreducible] def mc_5y : MC :=
 (sR [mo (.ld (some 2) (.t 5)) 113,
 oV 3 114,
 mo (.call (.f 32) [(.t 113),(.t 114)] [] []) 115,
 oV 115 14]
 (.cut (sR [oV 11 116,
 mo (.bin true .add (.t 116) (cI 1)) 117,
 oV 4 118,
 mo (.len false (.t 118)) 119,
 mo (.bin false .lss (.t 117) (.t 119)) 120]
 (.cond (.t 120)
 (.note (.gc [1,2,3,4,5,11,12,13,14,32,33,34,42,43,44,45,46,49,50,51,52,53,54,55,56,57,58,59,62,63,64,65,66,67,68,69,79,80,81,82,83,84,85,86,87,90,91,92,93,94,95,96,97,98,99,100,101,102,103,104,105,106,107,108,109,110,111,149,150,151,152,155,156,157,158,159]) (.reg [oV 14 121,
 oV 4 122,
 oV 11 123,
 mo (.bin true .add (.t 123) (cI 1)) 124,
 mo (.iad 1 (.t 122) (.t 124)) 125,
 oL 125 126,
 oV 12 127,
 mo (.bin true .add (.t 127) (cI 1)) 128,
 mo (.mm true (.t 126) (.t 128)) 129,
 mo (.mm false (.t 121) (.t 129)) 130,
 oV 130 14]))
 .skip))
 mc_5x))
@[irreducible] def mc_5z : MC :=
 (sR [oF 1 5 71,
 oL 71 72,
 oV 12 73,
 mo (.iad 7 (.t 72) (.t 73)) 74,
 mo (.ld (some 7) (.t 74)) 75,
 mo (.alloc [(.int .i64 0),(.int .i64 0),(.int .i64 0),(.int .i64 0),(.int .i64 0),(.int .i64 0),(.int .i64 0)]) 13,
 ⟨.st 7 (.t 13) (.t 75), none, none⟩]
 (.cut (.seq (.regD [oV 11 76,
 mo (.bin false .eql (.t 76) (cI 0)) 77,
 oV 77 78,
 gT 78 79 (.fad 1 (.t 13)),
 gT 78 80 (.ld none (.t 79)),
 gT 78 81 (.bin false .neq (.t 80) (cI 5)),
 gT 78 82 (.mv (.t 81)),
 gF 82 83 (.fad 5 (.t 13)),
 gF 82 84 (.ld none (.t 83)),
 gF 82 85 (.mv (.t 1)),
 gF 82 86 (.bin false .neq (.t 84) (.t 85)),
 gT 78 87 (.pick (.t 82) (.c (.bool true)) (.t 86)),
 mo (.pick (.t 78) (.t 87) (.c (.bool false))) 88,
 oV 88 89,
 gF 89 90 (.mv (.t 11)),
 gF 89 91 (.bin false .gtr (.t 90) (cI 0)),
 gF 89 92 (.mv (.t 91)),
 gT 92 93 (.fad 1 (.t 13)),
 gT 92 94 (.ld none (.t 93)),
 gT 92 95 (.bin false .neq (.t 94) (cI 7)),
 gT 92 96 (.mv (.t 95)),
 gF 96 97 (.fad 6 (.t 13)),
 gF 96 98 (.ld none (.t 97)),
 gF 96 99 (.fad 1 (.t 5)),
 gF 96 100 (.ld none (.t 99)),
 gF 96 101 (.mv (.t 4)),
 gF 96 102 (.mv (.t 11)),
 gF 96 103 (.bin true .sub (.t 102) (cI 1)),
 gF 96 104 (.iad 1 (.t 101) (.t 103)),
 gF 96 105 (.ld none (.t 104)),
 gF 96 106 (.iad 7 (.t 100) (.t 105)),
 gF 96 107 (.fad 2 (.t 106)),
 gF 96 108 (.ld none (.t 107)),
 gF 96 109 (.bin false .neq (.t 98) (.t 108)),
 gT 92 110 (.pick (.t 96) (.c (.bool true)) (.t 109)),
 gF 89 111 (.pick (.t 92) (.t 110) (.c (.bool false))),
 mo (.pick (.t 89) (.c (.bool true)) (.t 111)) 112]
 [[],[0],[1],[2],[3,2],[4,2],[5,2,2],[6],[7,6],[6],[8,9,6],[6,10,2],[2,11],[12,6],[13],[14,13],[15,13,13],[16],[17,16],[18,16],[19,16,16],[20],[21,20],[20],[23,20],[20],[20],[26,20],[25,27,20],[28,20],[24,29,20],[30,20],[31,20],[22,32,20],[20,33,16],[16,34,13],[13,35]]
 [[],[0],[0,1],[0,1,2],[0,1,2,3],[0,1,2,3,4],[0,1,2,3,4,5],[0,1,2,3,4,5,6],[0,1,2,3,4,5,6,7],[0,1,2,3,4,5,6],[0,1,2,3,4,5,6,7,8,9],[0,1,2,3,4,5,6,7,8,9,10],[0,1,2,3,4,5,6,7,8,9,10,11],[0,1,2,3,4,5,6,7,8,9,10,11,12],[0,1,2,3,4,5,6,7,8,9,10,11,12,13],[0,1,2,3,4,5,6,7,8,9,10,11,12,13,14],[0,1,2,3,4,5,6,7,8,9,10,11,12,13,14,15],[0,1,2,3,4,5,6,7,8,9,10,11,12,13,14,15,16],[0,1,2,3,4,5,6,7,8,9,10,11,12,13,14,15,16,17],[0,1,2,3,4,5,6,7,8,9,10,11,12,13,14,15,16,17,18],[0,1,2,3,4,5,6,7,8,9,10,11,12,13,14,15,16,17,18,19],[0,1,2,3,4,5,6,7,8,9,10,11,12,13,14,15,16,17,18,19,20],[0,1,2,3,4,5,6,7,8,9,10,11,12,13,14,15,16,17,18,19,20,21],[0,1,2,3,4,5,6,7,8,9,10,11,12,13,14,15,16,17,18,19,20],[0,1,2,3,4,5,6,7,8,9,10,11,12,13,14,15,16,17,18,19,20,23],[0,1,2,3,4,5,6,7,8,9,10,11,12,13,14,15,16,17,18,19,20],[0,1,2,3,4,5,6,7,8,9,10,11,12,13,14,15,16,17,18,19,20],[0,1,2,3,4,5,6,7,8,9,10,11,12,13,14,15,16,17,18,19,20,26],[0,1,2,3,4,5,6,7,8,9,10,11,12,13,14,15,16,17,18,19,20,25,26,27],[0,1,2,3,4,5,6,7,8,9,10,11,12,13,14,15,16,17,18,19,20,25,26,27,28],[0,1,2,3,4,5,6,7,8,9,10,11,12,13,14,15,16,17,18,19,20,23,24,25,26,27,28,29],[0,1,2,3,4,5,6,7,8,9,10,11,12,13,14,15,16,17,18,19,20,23,24,25,26,27,28,29,30],[0,1,2,3,4,5,6,7,8,9,10,11,12,13,14,15,16,17,18,19,20,23,24,25,26,27,28,29,30,31],[0,1,2,3,4,5,6,7,8,9,10,11,12,13,14,15,16,17,18,19,20,21,22,23,24,25,26,27,28,29,30,31,32],[0,1,2,3,4,5,6,7,8,9,10,11,12,13,14,15,16,17,18,19,20,21,22,23,24,25,26,27,28,29,30,31,32,33],[0,1,2,3,4,5,6,7,8,9,10,11,12,13,14,15,16,17,18,19,20,21,22,23,24,25,26,27,28,29,30,31,32,33,34],[0,1,2,3,4,5,6,7,8,9,10,11,12,13,14,15,16,17,18,19,20,21,22,23,24,25,26,27,28,29,30,31,32,33,34,35]])
 (.cond (.t 112)
 (sR [mo (.mv (.c (.bool false))) 10]
 .ret)
 .skip))
 mc_5y))
@[irreducible] def mc_22 : MC :=
 (sR [mo (.bin false .lss (.t 34) (.t 33)) 35]
 (.seq (.cond (.t 35)
 .skip
 (.exit 0))
 (.seq (.block 1
 (sR [oV 34 36,
 mo (.iad 1 (.t 32) (.t 34)) 37,
 oL 37 38,
 oV 36 11,
 oV 38 12]
 (.cut (.seq (.regI [.op (oV 12 39),
 .op (mo (.bin false .lss (.t 39) (cI 0)) 40),
 .op (oV 40 41),
 .grp mg_5u,
 .op (oV 47 48),
 .op (gF 48 49 (.mv (.t 11))),
 .op (gF 48 50 (.bin false .gtr (.t 49) (cI 0))),
 .op (gF 48 51 (.mv (.t 50))),
 .op (gT 51 52 (.mv (.t 12))),
 .op (gT 51 53 (.mv (.t 4))),
 .op (gT 51 54 (.mv (.t 11))),
 .op (gT 51 55 (.bin true .sub (.t 54) (cI 1))),
 .op (gT 51 56 (.iad 1 (.t 53) (.t 55))),
 .op (gT 51 57 (.ld none (.t 56))),
 .op (gT 51 58 (.bin false .leq (.t 52) (.t 57))),
 .op (gF 48 59 (.pick (.t 51) (.t 58) (.c (.bool false)))),
 .op (mo (.pick (.t 48) (.c (.bool true)) (.t 59)) 60),
 .op (oV 60 61),
 .op (gF 61 62 (.fad 1 (.t 5))),
 .op (gF 61 63 (.ld none (.t 62))),
 .op (gF 61 64 (.mv (.t 12))),
 .op (gF 61 65 (.iad 7 (.t 63) (.t 64))),
 .op (gF 61 66 (.fad 0 (.t 65))),
 .op (gF 61 67 (.ld none (.t 66))),
 .op (gF 61 68 (.mv (.t 3))),
 .op (gF 61 69 (.bin false .gtr (.t 67) (.t 68))),
 .op (mo (.pick (.t 61) (.c (.bool true)) (.t 69)) 70)])
 (.cond (.t 70)
 (sR [mo (.mv (.c (.bool false))) 10]
 .ret)
 .skip))
 mc_5z)))
 (.reg [mo (.bin true .add (.t 34) (cI 1)) 162,
 oV 162 34]))))
@[irreducible] def mc_60 : MC :=
 (.seq (sR [oV 4 32,
 mo (.len false (.t 32)) 33,
 oC 0 34]
 (.block 0
 (.loop mc_22)))
 (.seq (.regD [oF 1 5 163,
 oL 163 164,
 oV 4 165,
 oV 4 166,
 mo (.len false (.t 166)) 167,
 mo (.bin true .sub (.t 167) (cI 1)) 168,
 mo (.iad 1 (.t 165) (.t 168)) 169,
 oL 169 170,
 mo (.iad 7 (.t 164) (.t 170)) 171,
 oF 2 171 172,
 oL 172 173,
 oV 2 174,
 mo (.bin false .eql (.t 173) (.t 174)) 175,
 oV 175 10]
 [[],[0],[],[],[3],[4],[2,5],[6],[1,7],[8],[9],[],[10,11],[12,0,1,2,3,4,5,6,7,8,9,10,11,12]]
 [[],[0],[],[],[3],[3,4],[2,3,4,5],[2,3,4,5,6],[0,1,2,3,4,5,6,7],[0,1,2,3,4,5,6,7,8],[0,1,2,3,4,5,6,7,8,9],[],[0,1,2,3,4,5,6,7,8,9,10,11],[0,1,2,3,4,5,6,7,8,9,10,11,12]])
 .ret))
def mc_1i : MC :=
 (sR [mo (.box (.t 0)) 5,
 mo (.mv (.c (.bool false))) 10]
 (.cut (.seq (.regI [.op (mo (.ld (some 2) (.t 5)) 17),
 .op (oV 1 18),
 .op (mo (.call (.f 39) [(.t 17),(.t 18)] [] []) 19),
 .op (mo (.not (.t 19)) 20),
 .op (oV 20 21),
 .op (gF 21 22 (.ld (some 2) (.t 5))),
 .op (gF 21 23 (.mv (.t 2))),
 .op (gF 21 24 (.call (.f 30) [(.t 22),(.t 23)] [] [])),
 .op (gF 21 25 (.not (.t 24))),
 .op (mo (.pick (.t 21) (.c (.bool true)) (.t 25)) 26),
 .op (oV 26 27),
 .grp mg_46])
 (.cond (.t 31)
 (sR [mo (.mv (.c (.bool false))) 10]
 .ret)
 .skip))
 mc_60))
theorem Wq_1i {a_ : GEstate} {content_ place_ t_ : Int} {way_ : List Int} : Cn Tryz.prog 48 [GEstate.v a_, .int .i64 content_, .int .i64 place_, .int .i64 t_, .sl (way_.map (V.int .i64))] [] (F_1i a_ content_ place_ t_ way_) (fun z => .bool z) (fun z => []) := fun Q Q' h hQ => by
 refine acallM mc_1i [] [] [.t 10] Tryz.func48 fun M => ?_
 unfold F_1i at h
 unfold mc_1i
 replace h := tY h
 refine tB ?_
 repeat' (first
 | (exact tZ)
 | ((first | refine oblg h ?_ | refine roomG h ?_ | refine fork h ?_ ?_ | refine forkS h ?_ ?_) <;> clear h <;> intro hc h)
 | (obtain ⟨y, hy, h⟩ := h; (first | with_reducible first | have hw := Wq_v.w hy | have hw := Wq_4.w hy | have hw := Wq_l.w hy); replace hw := tY hw; (first | refine M.sC hw ?_ | refine M.sD hw ?_); clear hw hy; refine tB ?_)
 | (refine M.gv1 (ms := mg_46) 31 [28,29,30] h ?_ ?_ <;> first
 | (clear h; intro K hK1; unfold mg_46; refine tB ?_)
 | (clear h; intro b h; replace h := tY h; refine tB ?_))
 | (refine M.gv1 (ms := mg_46) 31 [28,29,30] h ?_ ?_ <;> first
 | (clear h; intro K hK2; unfold mg_46; refine tB ?_)
 | (clear h; intro b h; replace h := tY h; refine tB ?_))
 | (refine M.gv1 (ms := mg_5u) 47 [42,43,44,45,46] h ?_ ?_ <;> first
 | (clear h; intro K hK3; unfold mg_5u; refine tB ?_)
 | (clear h; intro b h; replace h := tY h; refine tB ?_))
 | (refine M.gv1 (ms := mg_5w) 160 [155,156,157,158,159] h ?_ ?_ <;> first
 | (clear h; intro K hK4; unfold mg_5w; refine tB ?_)
 | (clear h; intro b h; replace h := tY h; refine tB ?_))
 | (refine M.gv1 (ms := mg_5v) 153 [149,150,151,152] h ?_ ?_ <;> first
 | (clear h; intro K hK5; unfold mg_5v; refine tB ?_)
 | (clear h; intro b h; replace h := tY h; refine tB ?_))
 | (refine M.for1 (b := mc_3x) 141 [1,2,3,4,5,13,32,33,34,49,50,51,59,62,63,64,67,68,69,90,91,92,111,139,140] [5,13] (fun x => []) (fun x => []) [] h ?_ ?_ ?_ <;> first
 | (clear h; intro k a x Qn K hK6 hkN6 ha6 h hf; have hl := fact_int (factsE_find (n := 140) hf.1 rfl); clear hf; have hkd := kD hkN6; have hkB6 := kB hkN6; have hkI6 := kI (k := k) (by omega); unfold F_3x at h; unfold mc_3x; replace h := tY h; refine tK ha6 hkd hkN6 hkB6 hkI6 ?_)
  |(clear h; intro x K h; replace h := And.left (And.intro h trivial); unfold mc_3x; replace h := tY h; refine tB ?_)
  |(clear h; (try refine tB ?_); exact tU0; done))
 | (refine M.jn1 (b := mc_5x) [1,2,3,4,5,12,13,32,33,34,49,50,51,59,62,63,64,67,68,69,90,91,92,111] [5,13] (fun y => [(14, .int .i64 y)]) (fun y => []) [] h ?_ ?_ <;> first
 | (clear h; intro Qn K hK7 h; replace h := tY h; refine tB ?_)
  |(clear h; intro y h; unfold mc_5x; replace h := tY h; refine tB ?_))
 | (refine M.jnE (b := mc_5y) [1,2,3,4,5,11,12,13,32,33,34,49,50,51,59,62,63,64,67,68,69] [5,13] (fun y => [(90, .int .i64 y.1), (91, .bool y.2.1), (92, .bool y.2.2.1), (111, .bool y.2.2.2)]) (fun y => []) [] h ?_ ?_ <;> first
 | (clear h; intro Qn K hK8 h; replace h := tY h; refine tB ?_)
  |(clear h; intro y h; unfold mc_5y; replace h := tY h; refine tB ?_))
 | (refine M.jnE (b := mc_5z) [1,2,3,4,5,11,12,32,33,34] [5] (fun y => [(49, .int .i64 y.1), (50, .bool y.2.1), (51, .bool y.2.2.1), (59, .bool y.2.2.2.1), (62, .ptr 5 1), (63, .sl (y.2.2.2.2.1.map GAccess.v)), (64, .int .i64 y.2.2.2.2.2.1), (67, .int .i64 y.2.2.2.2.2.2.1), (68, .int .i64 y.2.2.2.2.2.2.2.1), (69, .bool y.2.2.2.2.2.2.2.2)]) (fun y => []) [] h ?_ ?_ <;> first
 | (clear h; intro Qn K hK9 h; replace h := tY h; refine tB ?_)
  |(clear h; intro y h; unfold mc_5z; replace h := tY h; refine tB ?_))
 | (refine M.for1 (b := mc_22) 34 [1,2,3,4,5,32,33] [5] (fun x => []) (fun x => []) [] h ?_ ?_ ?_ <;> first
 | (clear h; intro k a x Qn K hK10 hkN10 ha10 h hf; have hl := fact_int (factsE_find (n := 33) hf.1 rfl); clear hf; have hkd := kD hkN10; have hkB10 := kB hkN10; have hkI10 := kI (k := k) (by omega); unfold F_22 at h; unfold mc_22; replace h := tY h; refine tK ha10 hkd hkN10 hkB10 hkI10 ?_)
  |(clear h; intro x K h; replace h := And.left (And.intro h trivial); unfold mc_22; replace h := tY h; refine tB ?_)
  |(clear h; (try refine tB ?_); exact tU0; done))
 | (refine M.jnE (b := mc_60) [1,2,3,4,5] [5] (fun y => []) (fun y => []) [] h ?_ ?_ <;> first
 | (clear h; intro Qn K hK11 h; replace h := tY h; refine tB ?_)
  |(clear h; intro y h; unfold mc_60; replace h := tY h; refine tB ?_))
 | (first | simp only [ha6] | simp only [ha10])
 | ((first | refine hK1 _ ?_ | refine hK2 _ ?_ | refine hK3 _ ?_ | refine hK4 _ ?_ | refine hK5 _ ?_); exact tU; done)
 | ((first | refine hK6 _ ?_ | refine hK7 _ ?_ | refine hK8 _ ?_ | refine hK9 _ ?_ | refine hK10 _ ?_ | refine hK11 _ ?_); (try refine tB ?_); refine ⟨_, h, ?_⟩; exact tU0; done)
 | (refine bfork (fun hc => ?_) (fun hc => ?_))
 | (refine tE ?_; (first | rw [M.lok_compU] | rw [M.lokD_compU]); refine tB ?_)
 | (refine tA ?_))
def F_3f (place_ : Int) (t_ : Int) (k71 : Int) (a72 : GAccess) (x70 : Unit) : Option (Fl Unit Bool) :=
 grp ((decide (a72.Kind = 4) && decide (a72.Place = place_))) fun b87 => grp ((b87 && decide (a72.Time ≤ t_))) fun b88 => bif b88 then some (.ex false) else some (.nx ())
def F_e (a_ : GEstate) (place_ : Int) (link_ : Int) (t_ : Int) : Option Bool :=
 (F_4 a_ place_).bind fun y7 => bif (!y7) then some false else chk (in64 ((a_.Events.length : Int) - 1)) ((F_6 link_ 0 ((a_.Events.length : Int) - 1)).bind fun y8 => bif (!y8) then some false else chk (inb link_ a_.Events.length) (grp (((!decide ((a_.Events.getD (link_).toNat default).Kind = 3)) || (!decide ((a_.Events.getD (link_).toNat default).Place = place_)))) fun b18 => grp ((b18 || decide (t_ < (a_.Events.getD (link_).toNat default).Time))) fun b19 => grp ((b19 || decide ((a_.Events.getD (link_).toNat default).Until ≤ t_))) fun b20 => bif b20 then some false else chk (in64 (link_ + 1)) (chk (inc (link_ + 1) (a_.Events.length : Int) a_.Events.length) ((forL (F_3f place_ t_) (a_.Events.drop (((link_ + 1)).toNat)) 0 ()).bind fun o => o.elim (fun x89 => some true) (fun r90 => some r90)))))
@[irreducible] def mg_61 : List MOp := [gF 33 34 (.fad 2 (.t 9)),
 gF 33 35 (.ld none (.t 34)),
 gF 33 36 (.mv (.t 1)),
 gF 33 37 (.bin false .neq (.t 35) (.t 36)),
 mo (.pick (.t 33) (.c (.bool true)) (.t 37)) 38]
@[irreducible] def mg_62 : List MOp := [gF 39 40 (.fad 0 (.t 9)),
 gF 39 41 (.ld none (.t 40)),
 gF 39 42 (.mv (.t 3)),
 gF 39 43 (.bin false .gtr (.t 41) (.t 42)),
 mo (.pick (.t 39) (.c (.bool true)) (.t 43)) 44]
@[irreducible] def mg_63 : List MOp := [gF 45 46 (.fad 4 (.t 9)),
 gF 45 47 (.ld none (.t 46)),
 gF 45 48 (.mv (.t 3)),
 gF 45 49 (.bin false .leq (.t 47) (.t 48)),
 mo (.pick (.t 45) (.c (.bool true)) (.t 49)) 50]
@[irreducible] def mg_64 : List MOp := [gT 64 65 (.fad 2 (.t 11)),
 gT 64 66 (.ld none (.t 65)),
 gT 64 67 (.mv (.t 1)),
 gT 64 68 (.bin false .eql (.t 66) (.t 67)),
 mo (.pick (.t 64) (.t 68) (.c (.bool false))) 69]
@[irreducible] def mg_65 : List MOp := [gT 70 71 (.fad 0 (.t 11)),
 gT 70 72 (.ld none (.t 71)),
 gT 70 73 (.mv (.t 3)),
 gT 70 74 (.bin false .leq (.t 72) (.t 73)),
 mo (.pick (.t 70) (.t 74) (.c (.bool false))) 75]
@[irreducible] def mc_3f : MC :=
 (sR [mo (.bin false .lss (.t 57) (.t 56)) 58]
 (.seq (.cond (.t 58)
 .skip
 (.exit 0))
 (.seq (.block 1
 (sR [mo (.iad 7 (.t 55) (.t 57)) 59,
 mo (.ld (some 7) (.t 59)) 60,
 mo (.alloc [(.int .i64 0),(.int .i64 0),(.int .i64 0),(.int .i64 0),(.int .i64 0),(.int .i64 0),(.int .i64 0)]) 11,
 ⟨.st 7 (.t 11) (.t 60), none, none⟩]
 (.seq (.regI [.op (oF 1 11 61),
 .op (oL 61 62),
 .op (mo (.bin false .eql (.t 62) (cI 4)) 63),
 .op (oV 63 64),
 .grp mg_64,
 .op (oV 69 70),
 .grp mg_65])
 (.cond (.t 75)
 (sR [mo (.mv (.c (.bool false))) 8]
 .ret)
 .skip))))
 (.reg [mo (.bin true .add (.t 57) (cI 1)) 76,
 oV 76 57]))))
def mc_e : MC :=
 (sR [mo (.box (.t 0)) 4,
 mo (.mv (.c (.bool false))) 8]
 (.seq (sR [mo (.ld (some 2) (.t 4)) 12,
 oV 1 13,
 mo (.call (.f 30) [(.t 12),(.t 13)] [] []) 14,
 mo (.not (.t 14)) 15,
 oV 15 16,
 gF 16 17 (.mv (.t 2)),
 gF 16 18 (.fad 1 (.t 4)),
 gF 16 19 (.ld none (.t 18)),
 gF 16 20 (.len false (.t 19)),
 gF 16 21 (.bin true .sub (.t 20) (cI 1)),
 gF 16 22 (.call (.f 54) [(.t 17), (cI 0),(.t 21)] [] []),
 gF 16 23 (.not (.t 22)),
 mo (.pick (.t 16) (.c (.bool true)) (.t 23)) 24]
 (.cond (.t 24)
 (sR [mo (.mv (.c (.bool false))) 8]
 .ret)
 .skip))
 (.seq (.note (.gc [1,2,3,4,34,35,36,37,40,41,42,43,46,47,48,49,65,66,67,68,71,72,73,74]) (.reg [oF 1 4 25,
 oL 25 26,
 oV 2 27,
 mo (.iad 7 (.t 26) (.t 27)) 28,
 mo (.ld (some 7) (.t 28)) 29,
 mo (.alloc [(.int .i64 0),(.int .i64 0),(.int .i64 0),(.int .i64 0),(.int .i64 0),(.int .i64 0),(.int .i64 0)]) 9,
 ⟨.st 7 (.t 9) (.t 29), none, none⟩]))
 (.seq (.seq (.regI [.op (oF 1 9 30),
 .op (oL 30 31),
 .op (mo (.bin false .neq (.t 31) (cI 3)) 32),
 .op (oV 32 33),
 .grp mg_61,
 .op (oV 38 39),
 .grp mg_62,
 .op (oV 44 45),
 .grp mg_63])
 (.cond (.t 50)
 (sR [mo (.mv (.c (.bool false))) 8]
 .ret)
 .skip))
 (.seq (.seq (.note (.gc [1,2,3,4,65,66,67,68,71,72,73,74]) (.reg [oF 1 4 51,
 oL 51 52,
 oV 2 53,
 mo (.bin true .add (.t 53) (cI 1)) 54,
 mo (.slc 7 (.t 52) (some (.t 54)) none) 55,
 mo (.len false (.t 55)) 56,
 oC 0 57]))
 (.block 0
 (.loop mc_3f)))
 (sR [mo (.mv (.c (.bool true))) 8]
 .ret))))))
theorem Wq_e {a_ : GEstate} {place_ link_ t_ : Int} : Cn Tryz.prog 40 [GEstate.v a_, .int .i64 place_, .int .i64 link_, .int .i64 t_] [] (F_e a_ place_ link_ t_) (fun z => .bool z) (fun z => []) := fun Q Q' h hQ => by
 refine acallM mc_e [] [] [.t 8] Tryz.func40 fun M => ?_
 unfold F_e at h
 unfold mc_e
 replace h := tY h
 refine tB ?_
 repeat' (first
 | (exact tZ)
 | ((first | refine oblg h ?_ | refine roomG h ?_ | refine fork h ?_ ?_ | refine forkS h ?_ ?_) <;> clear h <;> intro hc h)
 | (obtain ⟨y, hy, h⟩ := h; (first | with_reducible first | have hw := Wq_4.w hy | have hw := Wq_6.w hy); replace hw := tY hw; (first | refine M.sC hw ?_ | refine M.sD hw ?_); clear hw hy; refine tB ?_)
 | (refine M.gv1 (ms := mg_65) 75 [71,72,73,74] h ?_ ?_ <;> first
 | (clear h; intro K hK1; unfold mg_65; refine tB ?_)
 | (clear h; intro b h; replace h := tY h; refine tB ?_))
 | (refine M.gv1 (ms := mg_64) 69 [65,66,67,68] h ?_ ?_ <;> first
 | (clear h; intro K hK2; unfold mg_64; refine tB ?_)
 | (clear h; intro b h; replace h := tY h; refine tB ?_))
 | (refine M.for1 (b := mc_3f) 57 [1,3,55,56] [] (fun x => []) (fun x => []) [] h ?_ ?_ ?_ <;> first
 | (clear h; intro k a x Qn K hK3 hkN3 ha3 h hf; have hl := fact_int (factsE_find (n := 56) hf.1 rfl); clear hf; have hkd := kD hkN3; have hkB3 := kB hkN3; have hkI3 := kI (k := k) (by omega); unfold F_3f at h; unfold mc_3f; replace h := tY h; refine tK ha3 hkd hkN3 hkB3 hkI3 ?_)
  |(clear h; intro x K h; replace h := And.left (And.intro h trivial); unfold mc_3f; replace h := tY h; refine tB ?_)
  |(clear h; (try refine tB ?_); exact tU0; done))
 | (refine M.gv1 (ms := mg_63) 50 [46,47,48,49] h ?_ ?_ <;> first
 | (clear h; intro K hK4; unfold mg_63; refine tB ?_)
 | (clear h; intro b h; replace h := tY h; refine tB ?_))
 | (refine M.gv1 (ms := mg_62) 44 [40,41,42,43] h ?_ ?_ <;> first
 | (clear h; intro K hK5; unfold mg_62; refine tB ?_)
 | (clear h; intro b h; replace h := tY h; refine tB ?_))
 | (refine M.gv1 (ms := mg_61) 38 [34,35,36,37] h ?_ ?_ <;> first
 | (clear h; intro K hK6; unfold mg_61; refine tB ?_)
 | (clear h; intro b h; replace h := tY h; refine tB ?_))
 | (simp only [ha3])
 | ((first | refine hK1 _ ?_ | refine hK2 _ ?_ | refine hK4 _ ?_ | refine hK5 _ ?_ | refine hK6 _ ?_); exact tU; done)
 | (refine hK3 _ ?_; (try refine tB ?_); refine ⟨_, h, ?_⟩; exact tU0; done)
 | (refine bfork (fun hc => ?_) (fun hc => ?_))
 | (refine tE ?_; (first | rw [M.lok_compU] | rw [M.lokD_compU]); refine tB ?_)
 | (refine tA ?_))
def F_2x (place_ : Int) (principal_ : Int) (t_ : Int) (k128 : Int) (a129 : GAccess) (x127 : Int) : Option Int :=
 grp ((decide (t_ < a129.Time) || (!decide (a129.Place = place_)))) fun b160 => grp ((b160 || (!decide (a129.Principal = principal_)))) fun b161 => bif b161 then some x127 else bif decide (a129.Kind = 1) then some k128 else bif decide (a129.Kind = 2) then some (-1) else some x127
def F_19 (a_ : GEstate) (place_ : Int) (principal_ : Int) (t_ : Int) : Option Int :=
 (foldL (F_2x place_ principal_ t_) a_.Events 0 (-1)).bind fun x162 => some x162
@[irreducible] def mg_66 : List MOp := [gF 24 25 (.fad 2 (.t 11)),
 gF 24 26 (.ld none (.t 25)),
 gF 24 27 (.mv (.t 1)),
 gF 24 28 (.bin false .neq (.t 26) (.t 27)),
 mo (.pick (.t 24) (.c (.bool true)) (.t 28)) 29]
@[irreducible] def mg_67 : List MOp := [gF 30 31 (.fad 3 (.t 11)),
 gF 30 32 (.ld none (.t 31)),
 gF 30 33 (.mv (.t 2)),
 gF 30 34 (.bin false .neq (.t 32) (.t 33)),
 mo (.pick (.t 30) (.c (.bool true)) (.t 34)) 35]
@[irreducible] def mc_2x : MC :=
 (sR [mo (.bin false .lss (.t 15) (.t 14)) 16]
 (.seq (.cond (.t 16)
 .skip
 (.exit 0))
 (.seq (.block 1
 (sR [oV 15 17,
 mo (.iad 7 (.t 13) (.t 15)) 18,
 mo (.ld (some 7) (.t 18)) 19,
 mo (.alloc [(.int .i64 0),(.int .i64 0),(.int .i64 0),(.int .i64 0),(.int .i64 0),(.int .i64 0),(.int .i64 0)]) 11,
 oV 17 10,
 ⟨.st 7 (.t 11) (.t 19), none, none⟩]
 (.seq (.seq (.regI [.op (oF 0 11 20),
 .op (oL 20 21),
 .op (oV 3 22),
 .op (mo (.bin false .gtr (.t 21) (.t 22)) 23),
 .op (oV 23 24),
 .grp mg_66,
 .op (oV 29 30),
 .grp mg_67])
 (.cond (.t 35)
 (.exit 1)
 .skip))
 (sR [oF 1 11 36,
 oL 36 37]
 (.block 2
 (sR [mo (.bin false .eql (.t 37) (cI 1)) 39,
 oV 39 38]
 (.cond (.t 38)
 (.reg [oV 10 40,
 oV 40 9])
 (sR [mo (.bin false .eql (.t 37) (cI 2)) 42,
 oV 42 41]
 (.cond (.t 41)
 (.reg [oC (-1) 9])
 .skip)))))))))
 (.reg [mo (.bin true .add (.t 15) (cI 1)) 43,
 oV 43 15]))))
def mc_19 : MC :=
 (sR [mo (.box (.t 0)) 4,
 oC 0 8]
 (sR [oC (-1) 9]
 (.seq (sR [oF 1 4 12,
 oL 12 13,
 mo (.len false (.t 13)) 14,
 oC 0 15]
 (.block 0
 (.loop mc_2x)))
 (sR [oV 9 44,
 oV 44 8]
 .ret))))
theorem Wq_19 {a_ : GEstate} {place_ principal_ t_ : Int} : Cn Tryz.prog 86 [GEstate.v a_, .int .i64 place_, .int .i64 principal_, .int .i64 t_] [] (F_19 a_ place_ principal_ t_) (fun z => .int .i64 z) (fun z => []) := fun Q Q' h hQ => by
 refine acallM mc_19 [] [] [.t 8] Tryz.func86 fun M => ?_
 unfold F_19 at h
 unfold mc_19
 replace h := tY h
 refine tB ?_
 repeat' (first
 | (exact tZ)
 | ((first | refine oblg h ?_ | refine roomG h ?_ | refine fork h ?_ ?_ | refine forkS h ?_ ?_) <;> clear h <;> intro hc h)
 | (refine M.gv1 (ms := mg_67) 35 [31,32,33,34] h ?_ ?_ <;> first
 | (clear h; intro K hK1; unfold mg_67; refine tB ?_)
 | (clear h; intro b h; replace h := tY h; refine tB ?_))
 | (refine M.gv1 (ms := mg_66) 29 [25,26,27,28] h ?_ ?_ <;> first
 | (clear h; intro K hK2; unfold mg_66; refine tB ?_)
 | (clear h; intro b h; replace h := tY h; refine tB ?_))
 | (refine M.fold1 (b := mc_2x) 15 [1,2,3,13,14] [] (fun x => [(9, .int .i64 x)]) (fun x => []) [] h ?_ ?_ ?_ <;> first
 | (clear h; intro k a x Qn K hK3 hkN3 ha3 h hf; have hl := fact_int (factsE_find (n := 14) hf.1 rfl); clear hf; have hkd := kD hkN3; have hkB3 := kB hkN3; have hkI3 := kI (k := k) (by omega); unfold F_2x at h; unfold mc_2x; replace h := tY h; refine tK ha3 hkd hkN3 hkB3 hkI3 ?_)
  |(clear h; intro x K h; replace h := And.left (And.intro h trivial); unfold mc_2x; replace h := tY h; refine tB ?_)
  |(clear h; (try refine tB ?_); exact tU0; done))
 | (simp only [ha3])
 | ((first | refine hK1 _ ?_ | refine hK2 _ ?_); exact tU; done)
 | (refine hK3 _ ?_; (try refine tB ?_); refine ⟨_, h, ?_⟩; exact tU0; done)
 | (refine bfork (fun hc => ?_) (fun hc => ?_))
 | (refine tE ?_; (first | rw [M.lok_compU] | rw [M.lokD_compU]); refine tB ?_)
 | (refine tA ?_))
def F_3g (a_ : GEstate) (place_ : Int) (principal_ : Int) (t_ : Int) : Option (Int × Bool) :=
 (F_4 a_ place_).bind fun y4 => bif (!y4) then some (0, false) else (F_19 a_ place_ principal_ t_).bind fun y8 => bif decide (0 ≤ y8) then some (y8, true) else some (0, false)
def mc_3g : MC :=
 (sR [mo (.box (.t 0)) 4,
 oC 0 8,
 mo (.mv (.c (.bool false))) 9]
 (.seq (sR [mo (.ld (some 2) (.t 4)) 11,
 oV 1 12,
 mo (.call (.f 30) [(.t 11),(.t 12)] [] []) 13,
 mo (.not (.t 13)) 14]
 (.cond (.t 14)
 (sR [oC 0 8,
 mo (.mv (.c (.bool false))) 9]
 .ret)
 .skip))
 (.seq (sR [mo (.ld (some 2) (.t 4)) 15,
 oV 1 16,
 oV 2 17,
 oV 3 18,
 mo (.call (.f 86) [(.t 15),(.t 16),(.t 17),(.t 18)] [] []) 19,
 oV 19 10]
 (sR [oV 10 20,
 mo (.bin false .geq (.t 20) (cI 0)) 21]
 (.cond (.t 21)
 (.seq (.note (.gc [10]) (.reg [oV 10 22,
 oV 22 8,
 mo (.mv (.c (.bool true))) 9]))
 .ret)
 .skip)))
 (sR [oC 0 8,
 mo (.mv (.c (.bool false))) 9]
 .ret))))
theorem Wq_3g {a_ : GEstate} {place_ principal_ t_ : Int} : Cn Tryz.prog 77 [GEstate.v a_, .int .i64 place_, .int .i64 principal_, .int .i64 t_] [] (F_3g a_ place_ principal_ t_) (fun z => .tup [.int .i64 z.1, .bool z.2]) (fun z => []) := fun Q Q' h hQ => by
 refine acallM mc_3g [] [] [.t 8, .t 9] Tryz.func77 fun M => ?_
 unfold F_3g at h
 unfold mc_3g
 replace h := tY h
 refine tB ?_
 repeat' (first
 | (exact tZ)
 | ((first | refine oblg h ?_ | refine roomG h ?_ | refine fork h ?_ ?_ | refine forkS h ?_ ?_) <;> clear h <;> intro hc h)
 | (obtain ⟨y, hy, h⟩ := h; (first | with_reducible first | have hw := Wq_4.w hy | have hw := Wq_19.w hy); replace hw := tY hw; (first | refine M.sC hw ?_ | refine M.sD hw ?_); clear hw hy; refine tB ?_)
 | (refine tE ?_; (first | rw [M.lok_compU] | rw [M.lokD_compU]); refine tB ?_)
 | (refine tA ?_))
def F_3h (x_ : Int) (k11 : Int) (a12 : Int) (x10 : Unit) : Option (Fl Unit Bool) :=
 bif decide (a12 = x_) then some (.ex true) else some (.nx ())
def F_1a (l_ : List Int) (x_ : Int) : Option Bool :=
 (forL (F_3h x_) l_ 0 ()).bind fun o => o.elim (fun x13 => some false) (fun r14 => some r14)
@[irreducible] def mc_3h : MC :=
 (sR [mo (.bin false .lss (.t 9) (.t 8)) 10]
 (.seq (.cond (.t 10)
 .skip
 (.exit 0))
 (.seq (.block 1
 (sR [mo (.iad 1 (.t 7) (.t 9)) 11,
 oL 11 12,
 oV 12 6]
 (sR [oV 6 13,
 oV 1 14,
 mo (.bin false .eql (.t 13) (.t 14)) 15]
 (.cond (.t 15)
 (sR [mo (.mv (.c (.bool true))) 4]
 .ret)
 .skip))))
 (.reg [mo (.bin true .add (.t 9) (cI 1)) 16,
 oV 16 9]))))
def mc_1a : MC :=
 (sR [mo (.mv (.c (.bool false))) 4]
 (.seq (sR [oV 0 7,
 mo (.len false (.t 7)) 8,
 oC 0 9]
 (.block 0
 (.loop mc_3h)))
 (sR [mo (.mv (.c (.bool false))) 4]
 .ret)))
theorem Wq_1a {l_ : List Int} {x_ : Int} : Cn Tryz.prog 59 [.sl (l_.map (V.int .i64)), .int .i64 x_] [] (F_1a l_ x_) (fun z => .bool z) (fun z => []) := fun Q Q' h hQ => by
 refine acallM mc_1a [] [] [.t 4] Tryz.func59 fun M => ?_
 unfold F_1a at h
 unfold mc_1a
 replace h := tY h
 refine tB ?_
 repeat' (first
 | (exact tZ)
 | ((first | refine oblg h ?_ | refine roomG h ?_ | refine fork h ?_ ?_ | refine forkS h ?_ ?_) <;> clear h <;> intro hc h)
 | (refine M.for1 (b := mc_3h) 9 [1,7,8] [] (fun x => []) (fun x => []) [] h ?_ ?_ ?_ <;> first
 | (clear h; intro k a x Qn K hK1 hkN1 ha1 h hf; have hl := fact_int (factsE_find (n := 8) hf.1 rfl); clear hf; have hkd := kD hkN1; have hkB1 := kB hkN1; have hkI1 := kI (k := k) (by omega); unfold F_3h at h; unfold mc_3h; replace h := tY h; refine tK ha1 hkd hkN1 hkB1 hkI1 ?_)
  |(clear h; intro x K h; replace h := And.left (And.intro h trivial); unfold mc_3h; replace h := tY h; refine tB ?_)
  |(clear h; (try refine tB ?_); exact tU0; done))
 | (simp only [ha1])
 | (refine hK1 _ ?_; (try refine tB ?_); refine ⟨_, h, ?_⟩; exact tU0; done)
 | (refine tE ?_; (first | rw [M.lok_compU] | rw [M.lokD_compU]); refine tB ?_)
 | (refine tA ?_))
def F_3y (p_ : Int) (group_ : Int) (t_ : Int) (k72 : Int) (a73 : GMember) (x71 : Bool) : Option Bool :=
 grp ((decide (a73.Time ≤ t_) && decide (a73.Principal = p_))) fun b88 => grp ((b88 && decide (a73.Group = group_))) fun b89 => bif b89 then some (decide (a73.Kind = 1)) else some x71
def F_3i (d_ : GDirectory) (p_ : Int) (group_ : Int) (t_ : Int) : Option Bool :=
 (foldL (F_3y p_ group_ t_) d_.Events 0 false).bind fun x90 => some x90
@[irreducible] def mg_68 : List MOp := [gT 23 24 (.fad 2 (.t 11)),
 gT 23 25 (.ld none (.t 24)),
 gT 23 26 (.mv (.t 1)),
 gT 23 27 (.bin false .eql (.t 25) (.t 26)),
 mo (.pick (.t 23) (.t 27) (.c (.bool false))) 28]
@[irreducible] def mg_69 : List MOp := [gT 29 30 (.fad 3 (.t 11)),
 gT 29 31 (.ld none (.t 30)),
 gT 29 32 (.mv (.t 2)),
 gT 29 33 (.bin false .eql (.t 31) (.t 32)),
 mo (.pick (.t 29) (.t 33) (.c (.bool false))) 34]
@[irreducible] def mc_3y : MC :=
 (sR [mo (.bin false .lss (.t 15) (.t 14)) 16]
 (.seq (.cond (.t 16)
 .skip
 (.exit 0))
 (.seq (.block 1
 (sR [mo (.iad 4 (.t 13) (.t 15)) 17,
 mo (.ld (some 4) (.t 17)) 18,
 mo (.alloc [(.int .i64 0),(.int .i64 0),(.int .i64 0),(.int .i64 0)]) 11,
 ⟨.st 4 (.t 11) (.t 18), none, none⟩]
 (.seq (.regI [.op (oF 0 11 19),
 .op (oL 19 20),
 .op (oV 3 21),
 .op (mo (.bin false .leq (.t 20) (.t 21)) 22),
 .op (oV 22 23),
 .grp mg_68,
 .op (oV 28 29),
 .grp mg_69])
 (.cond (.t 34)
 (.note (.gc [1,2,3,11,13,14,15,24,25,26,27,30,31,32,33]) (.reg [oF 1 11 35,
 oL 35 36,
 mo (.bin false .eql (.t 36) (cI 1)) 37,
 oV 37 9]))
 .skip))))
 (.reg [mo (.bin true .add (.t 15) (cI 1)) 38,
 oV 38 15]))))
def mc_3i : MC :=
 (sR [mo (.box (.t 0)) 4,
 mo (.mv (.c (.bool false))) 8]
 (sR [mo (.mv (.c (.bool false))) 9]
 (.seq (sR [oF 1 4 12,
 oL 12 13,
 mo (.len false (.t 13)) 14,
 oC 0 15]
 (.block 0
 (.loop mc_3y)))
 (sR [oV 9 39,
 oV 39 8]
 .ret))))
theorem Wq_3i {d_ : GDirectory} {p_ group_ t_ : Int} : Cn Tryz.prog 103 [GDirectory.v d_, .int .i64 p_, .int .i64 group_, .int .i64 t_] [] (F_3i d_ p_ group_ t_) (fun z => .bool z) (fun z => []) := fun Q Q' h hQ => by
 refine acallM mc_3i [] [] [.t 8] Tryz.func103 fun M => ?_
 unfold F_3i at h
 unfold mc_3i
 replace h := tY h
 refine tB ?_
 repeat' (first
 | (exact tZ)
 | ((first | refine oblg h ?_ | refine roomG h ?_ | refine fork h ?_ ?_ | refine forkS h ?_ ?_) <;> clear h <;> intro hc h)
 | (refine M.gv1 (ms := mg_69) 34 [30,31,32,33] h ?_ ?_ <;> first
 | (clear h; intro K hK1; unfold mg_69; refine tB ?_)
 | (clear h; intro b h; replace h := tY h; refine tB ?_))
 | (refine M.gv1 (ms := mg_68) 28 [24,25,26,27] h ?_ ?_ <;> first
 | (clear h; intro K hK2; unfold mg_68; refine tB ?_)
 | (clear h; intro b h; replace h := tY h; refine tB ?_))
 | (refine M.fold1 (b := mc_3y) 15 [1,2,3,13,14] [] (fun x => [(9, .bool x)]) (fun x => []) [] h ?_ ?_ ?_ <;> first
 | (clear h; intro k a x Qn K hK3 hkN3 ha3 h hf; have hl := fact_int (factsE_find (n := 14) hf.1 rfl); clear hf; have hkd := kD hkN3; have hkB3 := kB hkN3; have hkI3 := kI (k := k) (by omega); unfold F_3y at h; unfold mc_3y; replace h := tY h; refine tK ha3 hkd hkN3 hkB3 hkI3 ?_)
  |(clear h; intro x K h; replace h := And.left (And.intro h trivial); unfold mc_3y; replace h := tY h; refine tB ?_)
  |(clear h; (try refine tB ?_); exact tU0; done))
 | (simp only [ha3])
 | ((first | refine hK1 _ ?_ | refine hK2 _ ?_); exact tU; done)
 | (refine hK3 _ ?_; (try refine tB ?_); refine ⟨_, h, ?_⟩; exact tU0; done)
 | (refine bfork (fun hc => ?_) (fun hc => ?_))
 | (refine tE ?_; (first | rw [M.lok_compU] | rw [M.lokD_compU]); refine tB ?_)
 | (refine tA ?_))
def F_3z (d_ : GDirectory) (t_ : Int) (chain_ : List Int) (k83 : Int) (a84 : Int) (x82 : Unit) : Option (Fl Unit Bool) :=
 (F_3 d_ a84).bind fun y106 => bif (!y106) then some (.ex false) else chk (inc 0 k83 chain_.length) ((F_1a (chain_.take ((k83).toNat)) a84).bind fun y107 => bif y107 then some (.ex false) else bif decide (0 < k83) then chk (in64 (k83 - 1)) (chk (inb (k83 - 1) chain_.length) ((F_3i d_ (chain_.getD ((k83 - 1)).toNat default) a84 t_).bind fun y108 => bif (!y108) then some (.ex false) else some (.nx ()))) else some (.nx ()))
def F_3j (d_ : GDirectory) (t_ : Int) (chain_ : List Int) : Option Bool :=
 (F_9 d_).bind fun y10 => grp (((!y10) || decide ((chain_.length : Int) < 2))) fun b11 => grp ((b11 || decide ((d_.Kinds.length : Int) < (chain_.length : Int)))) fun b12 => bif b12 then some false else (forL (F_3z d_ t_ chain_) chain_ 0 ()).bind fun o => o.elim (fun x109 => some true) (fun r110 => some r110)
@[irreducible] def mg_6a : List MOp := [gF 12 13 (.mv (.t 2)),
 gF 12 14 (.len false (.t 13)),
 gF 12 15 (.bin false .lss (.t 14) (cI 2)),
 mo (.pick (.t 12) (.c (.bool true)) (.t 15)) 16]
@[irreducible] def mg_6b : List MOp := [gF 17 18 (.mv (.t 2)),
 gF 17 19 (.len false (.t 18)),
 gF 17 20 (.fad 0 (.t 3)),
 gF 17 21 (.ld none (.t 20)),
 gF 17 22 (.len false (.t 21)),
 gF 17 23 (.bin false .gtr (.t 19) (.t 22)),
 mo (.pick (.t 17) (.c (.bool true)) (.t 23)) 24]
@[irreducible] def mc_3z : MC :=
 (sR [mo (.bin false .lss (.t 27) (.t 26)) 28]
 (.seq (.cond (.t 28)
 .skip
 (.exit 0))
 (.seq (.block 1
 (sR [oV 27 29,
 mo (.iad 1 (.t 25) (.t 27)) 30,
 oL 30 31,
 oV 29 7,
 oV 31 8]
 (.seq (.regD [mo (.ld (some 2) (.t 3)) 32,
 oV 8 33,
 mo (.call (.f 38) [(.t 32),(.t 33)] [] []) 34,
 mo (.not (.t 34)) 35,
 oV 35 36,
 gF 36 37 (.mv (.t 2)),
 gF 36 38 (.mv (.t 7)),
 gF 36 39 (.slc 1 (.t 37) none (some (.t 38))),
 gF 36 40 (.mv (.t 8)),
 gF 36 41 (.call (.f 59) [(.t 39),(.t 40)] [] []),
 mo (.pick (.t 36) (.c (.bool true)) (.t 41)) 42,
 oV 42 43,
 gF 43 44 (.mv (.t 7)),
 gF 43 45 (.bin false .gtr (.t 44) (cI 0)),
 gF 43 46 (.mv (.t 45)),
 gT 46 47 (.ld (some 2) (.t 3)),
 gT 46 48 (.mv (.t 2)),
 gT 46 49 (.mv (.t 7)),
 gT 46 50 (.bin true .sub (.t 49) (cI 1)),
 gT 46 51 (.iad 1 (.t 48) (.t 50)),
 gT 46 52 (.ld none (.t 51)),
 gT 46 53 (.mv (.t 8)),
 gT 46 54 (.mv (.t 1)),
 gT 46 55 (.call (.f 103) [(.t 47),(.t 52),(.t 53),(.t 54)] [] []),
 gT 46 56 (.not (.t 55)),
 gF 43 57 (.pick (.t 46) (.t 56) (.c (.bool false))),
 mo (.pick (.t 43) (.c (.bool true)) (.t 57)) 58]
 [[],[],[0,1],[2],[3,2],[4],[4],[5,6,4],[4],[7,8,4,4],[4,9],[10,9],[11],[12,11],[13,11,11],[14],[14],[14],[17,14],[16,18,14],[19,14],[14],[14],[15,20,21,22,14,14],[23,14],[14,24,11],[11,25]]
 [[],[],[0,1],[0,1,2],[0,1,2,3],[0,1,2,3,4],[0,1,2,3,4],[0,1,2,3,4,5,6],[0,1,2,3,4],[0,1,2,3,4,5,6,7,8],[0,1,2,3,4,5,6,7,8,9],[0,1,2,3,4,5,6,7,8,9,10],[0,1,2,3,4,5,6,7,8,9,10,11],[0,1,2,3,4,5,6,7,8,9,10,11,12],[0,1,2,3,4,5,6,7,8,9,10,11,12,13],[0,1,2,3,4,5,6,7,8,9,10,11,12,13,14],[0,1,2,3,4,5,6,7,8,9,10,11,12,13,14],[0,1,2,3,4,5,6,7,8,9,10,11,12,13,14],[0,1,2,3,4,5,6,7,8,9,10,11,12,13,14,17],[0,1,2,3,4,5,6,7,8,9,10,11,12,13,14,16,17,18],[0,1,2,3,4,5,6,7,8,9,10,11,12,13,14,16,17,18,19],[0,1,2,3,4,5,6,7,8,9,10,11,12,13,14],[0,1,2,3,4,5,6,7,8,9,10,11,12,13,14],[0,1,2,3,4,5,6,7,8,9,10,11,12,13,14,15,16,17,18,19,20,21,22],[0,1,2,3,4,5,6,7,8,9,10,11,12,13,14,15,16,17,18,19,20,21,22,23],[0,1,2,3,4,5,6,7,8,9,10,11,12,13,14,15,16,17,18,19,20,21,22,23,24],[0,1,2,3,4,5,6,7,8,9,10,11,12,13,14,15,16,17,18,19,20,21,22,23,24,25]])
 (.cond (.t 58)
 (sR [mo (.mv (.c (.bool false))) 6]
 .ret)
 .skip))))
 (.reg [mo (.bin true .add (.t 27) (cI 1)) 59,
 oV 59 27]))))
def mc_3j : MC :=
 (sR [mo (.box (.t 0)) 3,
 mo (.mv (.c (.bool false))) 6]
 (.seq (.seq (.regI [.op (mo (.ld (some 2) (.t 3)) 9),
 .op (mo (.call (.f 33) [(.t 9)] [] []) 10),
 .op (mo (.not (.t 10)) 11),
 .op (oV 11 12),
 .grp mg_6a,
 .op (oV 16 17),
 .grp mg_6b])
 (.cond (.t 24)
 (sR [mo (.mv (.c (.bool false))) 6]
 .ret)
 .skip))
 (.seq (.seq (.note (.gc [1,2,3,37,38,39,40,41,44,45,46,47,48,49,50,51,52,53,54,55,56,57]) (.reg [oV 2 25,
 mo (.len false (.t 25)) 26,
 oC 0 27]))
 (.block 0
 (.loop mc_3z)))
 (sR [mo (.mv (.c (.bool true))) 6]
 .ret))))
theorem Wq_3j {d_ : GDirectory} {t_ : Int} {chain_ : List Int} : Cn Tryz.prog 78 [GDirectory.v d_, .int .i64 t_, .sl (chain_.map (V.int .i64))] [] (F_3j d_ t_ chain_) (fun z => .bool z) (fun z => []) := fun Q Q' h hQ => by
 refine acallM mc_3j [] [] [.t 6] Tryz.func78 fun M => ?_
 unfold F_3j at h
 unfold mc_3j
 replace h := tY h
 refine tB ?_
 repeat' (first
 | (exact tZ)
 | ((first | refine oblg h ?_ | refine roomG h ?_ | refine fork h ?_ ?_ | refine forkS h ?_ ?_) <;> clear h <;> intro hc h)
 | (obtain ⟨y, hy, h⟩ := h; (first | with_reducible first | have hw := Wq_9.w hy | have hw := Wq_3.w hy | have hw := Wq_1a.w hy | have hw := Wq_3i.w hy); replace hw := tY hw; (first | refine M.sC hw ?_ | refine M.sD hw ?_); clear hw hy; refine tB ?_)
 | (refine M.for1 (b := mc_3z) 27 [1,2,3,25,26] [3] (fun x => []) (fun x => []) [] h ?_ ?_ ?_ <;> first
 | (clear h; intro k a x Qn K hK1 hkN1 ha1 h hf; have hl := fact_int (factsE_find (n := 26) hf.1 rfl); clear hf; have hkd := kD hkN1; have hkB1 := kB hkN1; have hkI1 := kI (k := k) (by omega); unfold F_3z at h; unfold mc_3z; replace h := tY h; refine tK ha1 hkd hkN1 hkB1 hkI1 ?_)
  |(clear h; intro x K h; replace h := And.left (And.intro h trivial); unfold mc_3z; replace h := tY h; refine tB ?_)
  |(clear h; (try refine tB ?_); exact tU0; done))
 | (refine M.gv1 (ms := mg_6b) 24 [18,19,20,21,22,23] h ?_ ?_ <;> first
 | (clear h; intro K hK2; unfold mg_6b; refine tB ?_)
 | (clear h; intro b h; replace h := tY h; refine tB ?_))
 | (refine M.gv1 (ms := mg_6a) 16 [13,14,15] h ?_ ?_ <;> first
 | (clear h; intro K hK3; unfold mg_6a; refine tB ?_)
 | (clear h; intro b h; replace h := tY h; refine tB ?_))
 | (simp only [ha1])
 | (refine hK1 _ ?_; (try refine tB ?_); refine ⟨_, h, ?_⟩; exact tU0; done)
 | ((first | refine hK2 _ ?_ | refine hK3 _ ?_); exact tU; done)
 | (refine bfork (fun hc => ?_) (fun hc => ?_))
 | (refine tE ?_; (first | rw [M.lok_compU] | rw [M.lokD_compU]); refine tB ?_)
 | (refine tA ?_))
def F_2y (d_ : GDirectory) (a_ : GEstate) (p_ : Int) (r_ : GReading) : Option Bool :=
 (F_9 d_).bind fun y10 => bif (!y10) then some false else (F_4 a_ r_.Place).bind fun y11 => bif (!y11) then some false else (F_k d_ p_).bind fun y12 => bif (!y12) then some false else bif (!decide (r_.Link = (-1))) then grp ((decide (r_.Grant = (-1)) && decide ((r_.Chain.length : Int) = 0))) fun b22 => jn (α := Bool) (bif b22 then (F_e a_ r_.Place r_.Link r_.Time).bind fun y24 => some y24 else some false) fun j25 => some j25 else grp ((decide (r_.Grant < 0) || decide ((a_.Events.length : Int) ≤ r_.Grant))) fun b32 => grp ((b32 || decide ((r_.Chain.length : Int) = 0))) fun b33 => bif b33 then some false else chk (inb 0 r_.Chain.length) (bif (!decide ((r_.Chain.getD 0 default) = p_)) then some false else chk (inb r_.Grant a_.Events.length) (bif (!decide ((a_.Events.getD (r_.Grant).toNat default).Kind = 1)) then some false else bif (!decide ((a_.Events.getD (r_.Grant).toNat default).Place = r_.Place)) then some false else bif decide (r_.Time < (a_.Events.getD (r_.Grant).toNat default).Time) then some false else chk (in64 ((r_.Chain.length : Int) - 1)) (chk (inb ((r_.Chain.length : Int) - 1) r_.Chain.length) (bif (!decide ((r_.Chain.getD (((r_.Chain.length : Int) - 1)).toNat default) = (a_.Events.getD (r_.Grant).toNat default).Principal)) then some false else (F_3g a_ r_.Place ((a_.Events.getD (r_.Grant).toNat default).Principal) r_.Time).bind fun y37 => bif (!y37.2) then some false else jn (α := Bool) (bif decide ((r_.Chain.length : Int) = 1) then some true else (F_3j d_ r_.Time r_.Chain).bind fun y41 => some y41) fun j42 => some j42))))
@[irreducible] def mg_6c : List MOp := [gT 34 35 (.fad 4 (.t 7)),
 gT 34 36 (.ld none (.t 35)),
 gT 34 37 (.len false (.t 36)),
 gT 34 38 (.bin false .eql (.t 37) (cI 0)),
 mo (.pick (.t 34) (.t 38) (.c (.bool false))) 39]
@[irreducible] def mg_6d : List MOp := [gT 40 41 (.ld (some 2) (.t 5)),
 gT 40 42 (.fad 0 (.t 7)),
 gT 40 43 (.ld none (.t 42)),
 gT 40 44 (.fad 2 (.t 7)),
 gT 40 45 (.ld none (.t 44)),
 gT 40 46 (.fad 1 (.t 7)),
 gT 40 47 (.ld none (.t 46)),
 gT 40 48 (.call (.f 40) [(.t 41),(.t 43),(.t 45),(.t 47)] [] []),
 mo (.pick (.t 40) (.t 48) (.c (.bool false))) 49]
@[irreducible] def mg_6e : List MOp := [gF 53 54 (.fad 3 (.t 7)),
 gF 53 55 (.ld none (.t 54)),
 gF 53 56 (.fad 1 (.t 5)),
 gF 53 57 (.ld none (.t 56)),
 gF 53 58 (.len false (.t 57)),
 gF 53 59 (.bin false .geq (.t 55) (.t 58)),
 mo (.pick (.t 53) (.c (.bool true)) (.t 59)) 60]
@[irreducible] def mg_6f : List MOp := [gF 61 62 (.fad 4 (.t 7)),
 gF 61 63 (.ld none (.t 62)),
 gF 61 64 (.len false (.t 63)),
 gF 61 65 (.bin false .eql (.t 64) (cI 0)),
 mo (.pick (.t 61) (.c (.bool true)) (.t 65)) 66]
@[irreducible] def mg_6g : List MOp := [gF 128 129 (.ld (some 2) (.t 4)),
 gF 128 130 (.fad 1 (.t 7)),
 gF 128 131 (.ld none (.t 130)),
 gF 128 132 (.fad 4 (.t 7)),
 gF 128 133 (.ld none (.t 132)),
 gF 128 134 (.call (.f 78) [(.t 129),(.t 131),(.t 133)] [] []),
 mo (.pick (.t 128) (.c (.bool true)) (.t 134)) 135]
def mc_2y : MC :=
 (sR [mo (.box (.t 0)) 4,
 mo (.box (.t 1)) 5,
 mo (.box (.t 3)) 7,
 mo (.mv (.c (.bool false))) 8]
 (.seq (sR [mo (.ld (some 2) (.t 4)) 12,
 mo (.call (.f 33) [(.t 12)] [] []) 13,
 mo (.not (.t 13)) 14,
 oV 14 15,
 gF 15 16 (.ld (some 2) (.t 5)),
 gF 15 17 (.fad 0 (.t 7)),
 gF 15 18 (.ld none (.t 17)),
 gF 15 19 (.call (.f 30) [(.t 16),(.t 18)] [] []),
 gF 15 20 (.not (.t 19)),
 mo (.pick (.t 15) (.c (.bool true)) (.t 20)) 21,
 oV 21 22,
 gF 22 23 (.ld (some 2) (.t 4)),
 gF 22 24 (.mv (.t 2)),
 gF 22 25 (.call (.f 19) [(.t 23),(.t 24)] [] []),
 gF 22 26 (.not (.t 25)),
 mo (.pick (.t 22) (.c (.bool true)) (.t 26)) 27]
 (.cond (.t 27)
 (sR [mo (.mv (.c (.bool false))) 8]
 .ret)
 .skip))
 (.seq (.seq (.note (.gc [2,4,5,7,35,36,37,38,41,42,43,44,45,46,47,48,54,55,56,57,58,59,62,63,64,65,68,69,70,71,72,73,85,86,87,88,89,92,93,94,95,96,99,100,101,102,103,104,105,106,107,108,109,129,130,131,132,133,134]) (.reg [oF 2 7 28,
 oL 28 29,
 mo (.bin false .neq (.t 29) (cI (-1))) 30]))
 (.cond (.t 30)
 (.seq (.regI [.op (oF 3 7 31),
 .op (oL 31 32),
 .op (mo (.bin false .eql (.t 32) (cI (-1))) 33),
 .op (oV 33 34),
 .grp mg_6c,
 .op (oV 39 40),
 .grp mg_6d,
 .op (oV 49 8)])
 .ret)
 .skip))
 (.seq (.seq (.regI [.op (oF 3 7 50),
 .op (oL 50 51),
 .op (mo (.bin false .lss (.t 51) (cI 0)) 52),
 .op (oV 52 53),
 .grp mg_6e,
 .op (oV 60 61),
 .grp mg_6f,
 .op (oV 66 67),
 .op (gF 67 68 (.fad 4 (.t 7))),
 .op (gF 67 69 (.ld none (.t 68))),
 .op (gF 67 70 (.iad 1 (.t 69) (cI 0))),
 .op (gF 67 71 (.ld none (.t 70))),
 .op (gF 67 72 (.mv (.t 2))),
 .op (gF 67 73 (.bin false .neq (.t 71) (.t 72))),
 .op (mo (.pick (.t 67) (.c (.bool true)) (.t 73)) 74)])
 (.cond (.t 74)
 (sR [mo (.mv (.c (.bool false))) 8]
 .ret)
 .skip))
 (.seq (.note (.gc [4,5,7,85,86,87,88,89,92,93,94,95,96,99,100,101,102,103,104,105,106,107,108,109,129,130,131,132,133,134]) (.reg [oF 1 5 75,
 oL 75 76,
 oF 3 7 77,
 oL 77 78,
 mo (.iad 7 (.t 76) (.t 78)) 79,
 mo (.ld (some 7) (.t 79)) 80,
 mo (.alloc [(.int .i64 0),(.int .i64 0),(.int .i64 0),(.int .i64 0),(.int .i64 0),(.int .i64 0),(.int .i64 0)]) 9,
 ⟨.st 7 (.t 9) (.t 80), none, none⟩]))
 (.seq (.seq (.regD [oF 1 9 81,
 oL 81 82,
 mo (.bin false .neq (.t 82) (cI 1)) 83,
 oV 83 84,
 gF 84 85 (.fad 2 (.t 9)),
 gF 84 86 (.ld none (.t 85)),
 gF 84 87 (.fad 0 (.t 7)),
 gF 84 88 (.ld none (.t 87)),
 gF 84 89 (.bin false .neq (.t 86) (.t 88)),
 mo (.pick (.t 84) (.c (.bool true)) (.t 89)) 90,
 oV 90 91,
 gF 91 92 (.fad 0 (.t 9)),
 gF 91 93 (.ld none (.t 92)),
 gF 91 94 (.fad 1 (.t 7)),
 gF 91 95 (.ld none (.t 94)),
 gF 91 96 (.bin false .gtr (.t 93) (.t 95)),
 mo (.pick (.t 91) (.c (.bool true)) (.t 96)) 97,
 oV 97 98,
 gF 98 99 (.fad 4 (.t 7)),
 gF 98 100 (.ld none (.t 99)),
 gF 98 101 (.fad 4 (.t 7)),
 gF 98 102 (.ld none (.t 101)),
 gF 98 103 (.len false (.t 102)),
 gF 98 104 (.bin true .sub (.t 103) (cI 1)),
 gF 98 105 (.iad 1 (.t 100) (.t 104)),
 gF 98 106 (.ld none (.t 105)),
 gF 98 107 (.fad 3 (.t 9)),
 gF 98 108 (.ld none (.t 107)),
 gF 98 109 (.bin false .neq (.t 106) (.t 108)),
 mo (.pick (.t 98) (.c (.bool true)) (.t 109)) 110]
 [[],[0],[1],[2],[3],[4,3],[3],[6,3],[5,7,3],[3,8],[9,3],[10],[11,10],[10],[13,10],[12,14,10],[10,15],[16,10],[17],[18,17],[17],[20,17],[21,17],[22,17],[19,23,17],[24,17],[17],[26,17],[25,27,17],[17,28]]
 [[],[0],[0,1],[0,1,2],[0,1,2,3],[0,1,2,3,4],[0,1,2,3],[0,1,2,3,6],[0,1,2,3,4,5,6,7],[0,1,2,3,4,5,6,7,8],[0,1,2,3,4,5,6,7,8,9],[0,1,2,3,4,5,6,7,8,9,10],[0,1,2,3,4,5,6,7,8,9,10,11],[0,1,2,3,4,5,6,7,8,9,10],[0,1,2,3,4,5,6,7,8,9,10,13],[0,1,2,3,4,5,6,7,8,9,10,11,12,13,14],[0,1,2,3,4,5,6,7,8,9,10,11,12,13,14,15],[0,1,2,3,4,5,6,7,8,9,10,11,12,13,14,15,16],[0,1,2,3,4,5,6,7,8,9,10,11,12,13,14,15,16,17],[0,1,2,3,4,5,6,7,8,9,10,11,12,13,14,15,16,17,18],[0,1,2,3,4,5,6,7,8,9,10,11,12,13,14,15,16,17],[0,1,2,3,4,5,6,7,8,9,10,11,12,13,14,15,16,17,20],[0,1,2,3,4,5,6,7,8,9,10,11,12,13,14,15,16,17,20,21],[0,1,2,3,4,5,6,7,8,9,10,11,12,13,14,15,16,17,20,21,22],[0,1,2,3,4,5,6,7,8,9,10,11,12,13,14,15,16,17,18,19,20,21,22,23],[0,1,2,3,4,5,6,7,8,9,10,11,12,13,14,15,16,17,18,19,20,21,22,23,24],[0,1,2,3,4,5,6,7,8,9,10,11,12,13,14,15,16,17],[0,1,2,3,4,5,6,7,8,9,10,11,12,13,14,15,16,17,26],[0,1,2,3,4,5,6,7,8,9,10,11,12,13,14,15,16,17,18,19,20,21,22,23,24,25,26,27],[0,1,2,3,4,5,6,7,8,9,10,11,12,13,14,15,16,17,18,19,20,21,22,23,24,25,26,27,28]])
 (.cond (.t 110)
 (sR [mo (.mv (.c (.bool false))) 8]
 .ret)
 .skip))
 (.seq (.seq (.note (.gc [4,5,7,9,129,130,131,132,133,134]) (.reg [mo (.ld (some 2) (.t 5)) 112,
 oF 0 7 113,
 oL 113 114,
 oF 3 9 115,
 oL 115 116,
 oF 1 7 117,
 oL 117 118,
 mo (.call (.f 77) [(.t 112),(.t 114),(.t 116),(.t 118)] [] []) 119,
 oV 119 111,
 mo (.ext 0 (.t 111)) 120,
 mo (.ext 1 (.t 111)) 121,
 oV 120 10,
 oV 121 11]))
 (sR [oV 11 122,
 mo (.not (.t 122)) 123]
 (.cond (.t 123)
 (sR [mo (.mv (.c (.bool false))) 8]
 .ret)
 .skip)))
 (.seq (.note (.gc [4,7,129,130,131,132,133,134]) (.regI [.op (oF 4 7 124),
 .op (oL 124 125),
 .op (mo (.len false (.t 125)) 126),
 .op (mo (.bin false .eql (.t 126) (cI 1)) 127),
 .op (oV 127 128),
 .grp mg_6g,
 .op (oV 135 8)]))
 .ret))))))))
theorem Wq_2y {d_ : GDirectory} {a_ : GEstate} {p_ : Int} {r_ : GReading} : Cn Tryz.prog 49 [GDirectory.v d_, GEstate.v a_, .int .i64 p_, GReading.v r_] [] (F_2y d_ a_ p_ r_) (fun z => .bool z) (fun z => []) := fun Q Q' h hQ => by
 refine acallM mc_2y [] [] [.t 8] Tryz.func49 fun M => ?_
 unfold F_2y at h
 unfold mc_2y
 replace h := tY h
 refine tB ?_
 repeat' (first
 | (exact tZ)
 | ((first | refine oblg h ?_ | refine roomG h ?_ | refine fork h ?_ ?_ | refine forkS h ?_ ?_) <;> clear h <;> intro hc h)
 | (obtain ⟨y, hy, h⟩ := h; (first | with_reducible first | have hw := Wq_9.w hy | have hw := Wq_4.w hy | have hw := Wq_k.w hy | have hw := Wq_e.w hy | have hw := Wq_3g.w hy | have hw := Wq_3j.w hy); replace hw := tY hw; (first | refine M.sC hw ?_ | refine M.sD hw ?_); clear hw hy; refine tB ?_)
 | (refine M.gj1 (ms := mg_6d) [] [] (fun y => [(49, .bool y)]) (fun y => []) h ?_ ?_ <;> first
 | (clear h; intro Qn K hK1 h; unfold mg_6d; replace h := tY h; refine tB ?_)
  |(clear h; intro y h; replace h := tY h; refine tB ?_))
 | (refine M.gv1 (ms := mg_6c) 39 [35,36,37,38] h ?_ ?_ <;> first
 | (clear h; intro K hK2; unfold mg_6c; refine tB ?_)
 | (clear h; intro b h; replace h := tY h; refine tB ?_))
 | (refine M.gj1 (ms := mg_6g) [] [] (fun y => [(135, .bool y)]) (fun y => []) h ?_ ?_ <;> first
 | (clear h; intro Qn K hK3 h; unfold mg_6g; replace h := tY h; refine tB ?_)
  |(clear h; intro y h; replace h := tY h; refine tB ?_))
 | (refine M.gv1 (ms := mg_6f) 66 [62,63,64,65] h ?_ ?_ <;> first
 | (clear h; intro K hK4; unfold mg_6f; refine tB ?_)
 | (clear h; intro b h; replace h := tY h; refine tB ?_))
 | (refine M.gv1 (ms := mg_6e) 60 [54,55,56,57,58,59] h ?_ ?_ <;> first
 | (clear h; intro K hK5; unfold mg_6e; refine tB ?_)
 | (clear h; intro b h; replace h := tY h; refine tB ?_))
 | ((first | refine hK1 _ ?_ | refine hK3 _ ?_); (try refine tB ?_); refine ⟨_, h, ?_⟩; exact tU0; done)
 | ((first | refine hK2 _ ?_ | refine hK4 _ ?_ | refine hK5 _ ?_); exact tU; done)
 | (refine bfork (fun hc => ?_) (fun hc => ?_))
 | (refine tE ?_; (first | rw [M.lok_compU] | rw [M.lokD_compU]); refine tB ?_)
 | (refine tA ?_))
noncomputable def F_23 (d_ : GDirectory) (a_ : GEstate) (content_ : Int) (x_ : GExposure) (l_ : GLeak) : Option Bool :=
 (F_2w d_ a_ content_ x_.Principal).bind fun y16 => grp (((!y16) || decide (x_.Time < 0))) fun b17 => grp ((b17 || decide (1099511627776 < x_.Time))) fun b18 => grp ((b18 || (!decide (l_.Reading.Time = x_.Time)))) fun b19 => bif b19 then some false else (F_1i a_ content_ l_.Reading.Place l_.Reading.Time l_.Way).bind fun y20 => bif (!y20) then some false else bif decide (x_.Principal = (-1)) then grp ((decide (l_.Reading.Grant = (-1)) && decide ((l_.Reading.Chain.length : Int) = 0))) fun b30 => jn (α := Bool) (bif b30 then (F_e a_ l_.Reading.Place l_.Reading.Link l_.Reading.Time).bind fun y32 => some y32 else some false) fun j33 => some j33 else (F_2y d_ a_ x_.Principal l_.Reading).bind fun y35 => some y35
@[irreducible] def mg_6h : List MOp := [gF 21 22 (.fad 1 (.t 8)),
 gF 21 23 (.ld none (.t 22)),
 gF 21 24 (.bin false .lss (.t 23) (cI 0)),
 mo (.pick (.t 21) (.c (.bool true)) (.t 24)) 25]
@[irreducible] def mg_6i : List MOp := [gF 26 27 (.fad 1 (.t 8)),
 gF 26 28 (.ld none (.t 27)),
 gF 26 29 (.bin false .gtr (.t 28) (cI 1099511627776)),
 mo (.pick (.t 26) (.c (.bool true)) (.t 29)) 30]
@[irreducible] def mg_6j : List MOp := [gF 31 32 (.fad 1 (.t 11)),
 gF 31 33 (.ld none (.t 32)),
 gF 31 34 (.fad 1 (.t 8)),
 gF 31 35 (.ld none (.t 34)),
 gF 31 36 (.bin false .neq (.t 33) (.t 35)),
 mo (.pick (.t 31) (.c (.bool true)) (.t 36)) 37]
@[irreducible] def mg_6k : List MOp := [gT 56 57 (.fad 4 (.t 11)),
 gT 56 58 (.ld none (.t 57)),
 gT 56 59 (.len false (.t 58)),
 gT 56 60 (.bin false .eql (.t 59) (cI 0)),
 mo (.pick (.t 56) (.t 60) (.c (.bool false))) 61]
@[irreducible] def mg_6l : List MOp := [gT 62 63 (.ld (some 2) (.t 6)),
 gT 62 64 (.fad 0 (.t 11)),
 gT 62 65 (.ld none (.t 64)),
 gT 62 66 (.fad 2 (.t 11)),
 gT 62 67 (.ld none (.t 66)),
 gT 62 68 (.fad 1 (.t 11)),
 gT 62 69 (.ld none (.t 68)),
 gT 62 70 (.call (.f 40) [(.t 63),(.t 65),(.t 67),(.t 69)] [] []),
 mo (.pick (.t 62) (.t 70) (.c (.bool false))) 71]
def mc_23 : MC :=
 (sR [mo (.box (.t 0)) 5,
 mo (.box (.t 1)) 6,
 mo (.box (.t 3)) 8,
 mo (.box (.t 4)) 9,
 mo (.mv (.c (.bool false))) 10]
 (sR [oF 1 9 12,
 mo (.ld (some 5) (.t 12)) 13,
 mo (.alloc [(.int .i64 0),(.int .i64 0),(.int .i64 0),(.int .i64 0),(.sl [])]) 11,
 ⟨.st 5 (.t 11) (.t 13), none, none⟩]
 (.seq (.seq (.regI [.op (mo (.ld (some 2) (.t 5)) 14),
 .op (mo (.ld (some 2) (.t 6)) 15),
 .op (oV 2 16),
 .op (oF 0 8 17),
 .op (oL 17 18),
 .op (mo (.call (.f 47) [(.t 14),(.t 15),(.t 16),(.t 18)] [] []) 19),
 .op (mo (.not (.t 19)) 20),
 .op (oV 20 21),
 .grp mg_6h,
 .op (oV 25 26),
 .grp mg_6i,
 .op (oV 30 31),
 .grp mg_6j,
 .op (oV 37 38),
 .op (gF 38 39 (.ld (some 2) (.t 6))),
 .op (gF 38 40 (.mv (.t 2))),
 .op (gF 38 41 (.fad 0 (.t 11))),
 .op (gF 38 42 (.ld none (.t 41))),
 .op (gF 38 43 (.fad 1 (.t 11))),
 .op (gF 38 44 (.ld none (.t 43))),
 .op (gF 38 45 (.fad 0 (.t 9))),
 .op (gF 38 46 (.ld none (.t 45))),
 .op (gF 38 47 (.call (.f 48) [(.t 39),(.t 40),(.t 42),(.t 44),(.t 46)] [] [])),
 .op (gF 38 48 (.not (.t 47))),
 .op (mo (.pick (.t 38) (.c (.bool true)) (.t 48)) 49)])
 (.cond (.t 49)
 (sR [mo (.mv (.c (.bool false))) 10]
 .ret)
 .skip))
 (.seq (.seq (.note (.gc [5,6,8,11,57,58,59,60,63,64,65,66,67,68,69,70]) (.reg [oF 0 8 50,
 oL 50 51,
 mo (.bin false .eql (.t 51) (cI (-1))) 52]))
 (.cond (.t 52)
 (.seq (.regI [.op (oF 3 11 53),
 .op (oL 53 54),
 .op (mo (.bin false .eql (.t 54) (cI (-1))) 55),
 .op (oV 55 56),
 .grp mg_6k,
 .op (oV 61 62),
 .grp mg_6l,
 .op (oV 71 10)])
 .ret)
 .skip))
 (sR [mo (.ld (some 2) (.t 5)) 72,
 mo (.ld (some 2) (.t 6)) 73,
 oF 0 8 74,
 oL 74 75,
 mo (.ld (some 5) (.t 11)) 76,
 mo (.call (.f 49) [(.t 72),(.t 73),(.t 75),(.t 76)] [] []) 77,
 oV 77 10]
 .ret)))))
theorem Wq_23 {d_ : GDirectory} {a_ : GEstate} {content_ : Int} {x_ : GExposure} {l_ : GLeak} : Cn Tryz.prog 24 [GDirectory.v d_, GEstate.v a_, .int .i64 content_, GExposure.v x_, GLeak.v l_] [] (F_23 d_ a_ content_ x_ l_) (fun z => .bool z) (fun z => []) := fun Q Q' h hQ => by
 refine acallM mc_23 [] [] [.t 10] Tryz.func24 fun M => ?_
 unfold F_23 at h
 unfold mc_23
 replace h := tY h
 refine tB ?_
 repeat' (first
 | (exact tZ)
 | ((first | refine oblg h ?_ | refine roomG h ?_ | refine fork h ?_ ?_ | refine forkS h ?_ ?_) <;> clear h <;> intro hc h)
 | (obtain ⟨y, hy, h⟩ := h; (first | with_reducible first | have hw := Wq_2w.w hy | have hw := Wq_1i.w hy | have hw := Wq_e.w hy | have hw := Wq_2y.w hy); replace hw := tY hw; (first | refine M.sC hw ?_ | refine M.sD hw ?_); clear hw hy; refine tB ?_)
 | (refine M.gj1 (ms := mg_6l) [] [] (fun y => [(71, .bool y)]) (fun y => []) h ?_ ?_ <;> first
 | (clear h; intro Qn K hK1 h; unfold mg_6l; replace h := tY h; refine tB ?_)
  |(clear h; intro y h; replace h := tY h; refine tB ?_))
 | (refine M.gv1 (ms := mg_6k) 61 [57,58,59,60] h ?_ ?_ <;> first
 | (clear h; intro K hK2; unfold mg_6k; refine tB ?_)
 | (clear h; intro b h; replace h := tY h; refine tB ?_))
 | (refine M.gv1 (ms := mg_6j) 37 [32,33,34,35,36] h ?_ ?_ <;> first
 | (clear h; intro K hK3; unfold mg_6j; refine tB ?_)
 | (clear h; intro b h; replace h := tY h; refine tB ?_))
 | (refine M.gv1 (ms := mg_6i) 30 [27,28,29] h ?_ ?_ <;> first
 | (clear h; intro K hK4; unfold mg_6i; refine tB ?_)
 | (clear h; intro b h; replace h := tY h; refine tB ?_))
 | (refine M.gv1 (ms := mg_6h) 25 [22,23,24] h ?_ ?_ <;> first
 | (clear h; intro K hK5; unfold mg_6h; refine tB ?_)
 | (clear h; intro b h; replace h := tY h; refine tB ?_))
 | (refine hK1 _ ?_; (try refine tB ?_); refine ⟨_, h, ?_⟩; exact tU0; done)
 | ((first | refine hK2 _ ?_ | refine hK3 _ ?_ | refine hK4 _ ?_ | refine hK5 _ ?_); exact tU; done)
 | (refine bfork (fun hc => ?_) (fun hc => ?_))
 | (refine tE ?_; (first | rw [M.lok_compU] | rw [M.lokD_compU]); refine tB ?_)
 | (refine tA ?_))
noncomputable def F_1b : Option Bool :=
 (F_i (GDirectory.mk [1] []) (GEstate.mk 1 [(GAccess.mk 3 5 0 0 0 2 0), (GAccess.mk 7 1 0 0 0 0 0)]) 2).bind fun y2 => (F_c (GDirectory.mk [1] []) (GEstate.mk 1 [(GAccess.mk 3 5 0 0 0 2 0), (GAccess.mk 7 1 0 0 0 0 0)]) 2 0).bind fun y4 => jn (α := Bool) (bif decide (y2.2 = 0) then (F_2u y2.1 [(GExposure.mk 0 7)]).bind fun y11 => some y11 else some false) fun j12 => grp ((j12 && y4.2)) fun b13 => jn (α := Bool) (bif b13 then (F_23 (GDirectory.mk [1] []) (GEstate.mk 1 [(GAccess.mk 3 5 0 0 0 2 0), (GAccess.mk 7 1 0 0 0 0 0)]) 2 (GExposure.mk 0 7) y4.1).bind fun y15 => some y15 else some false) fun j16 => some j16
@[irreducible] def mg_6m : List MOp := [gT 27 28 (.mv (.t 3)),
 gT 27 29 (.build [(.int .i64 0),(.int .i64 0)] [(0,1, (cI 0)), (1,1, (cI 7))]),
 gT 27 30 (.lsl 2 [(.t 29)]),
 gT 27 31 (.call (.f 14) [(.t 28),(.t 30)] [] []),
 mo (.pick (.t 27) (.t 31) (.c (.bool false))) 32]
@[irreducible] def mg_6n : List MOp := [gT 33 34 (.mv (.t 6)),
 mo (.pick (.t 33) (.t 34) (.c (.bool false))) 35]
@[irreducible] def mg_6o : List MOp := [gT 36 37 (.ld (some 2) (.t 1)),
 gT 36 38 (.ld (some 2) (.t 2)),
 gT 36 39 (.build [(.int .i64 0),(.int .i64 0)] [(1,1, (cI 7))]),
 gT 36 40 (.ld (some 6) (.t 5)),
 gT 36 41 (.call (.f 24) [(.t 37),(.t 38), (cI 2),(.t 39),(.t 40)] [] []),
 mo (.pick (.t 36) (.t 41) (.c (.bool false))) 42]
def mc_1b : MC :=
 (sR [mo (.mv (.c (.bool false))) 0]
 (sR [mo (.bslice 1 [(cI 1)]) 7,
 mo (.build [(.sl []),(.sl [])] [(0,1,(.t 7))]) 8,
 mo (.alloc [(.sl []),(.sl [])]) 1,
 ⟨.st 2 (.t 1) (.t 8), none, none⟩]
 (sR [mo (.build [(.int .i64 0),(.int .i64 0),(.int .i64 0),(.int .i64 0),(.int .i64 0),(.int .i64 0),(.int .i64 0)] [(0,1, (cI 3)), (1,1, (cI 5)), (5,1, (cI 2))]) 9,
 mo (.build [(.int .i64 0),(.int .i64 0),(.int .i64 0),(.int .i64 0),(.int .i64 0),(.int .i64 0),(.int .i64 0)] [(0,1, (cI 7)), (1,1, (cI 1))]) 10,
 mo (.bslice 7 [(.t 9),(.t 10)]) 11,
 mo (.build [(.int .i64 0),(.sl [])] [(0,1, (cI 1)), (1,1,(.t 11))]) 12,
 mo (.alloc [(.int .i64 0),(.sl [])]) 2,
 ⟨.st 2 (.t 2) (.t 12), none, none⟩]
 (.seq (.regI [.op (mo (.ld (some 2) (.t 1)) 14),
 .op (mo (.ld (some 2) (.t 2)) 15),
 .nt (.fz 14),
 .nt (.fz 15),
 .op (mo (.call (.f 13) [(.t 14),(.t 15), (cI 2)] [] []) 16),
 .op (oV 16 13),
 .op (mo (.ext 0 (.t 13)) 17),
 .op (mo (.ext 1 (.t 13)) 18),
 .op (oV 17 3),
 .op (oV 18 4)])
 (.seq (.note (.gc [1,2,3,4,28,29,30,31,34,37,38,39,40,41]) (.reg [mo (.ld (some 2) (.t 1)) 20,
 mo (.ld (some 2) (.t 2)) 21,
 mo (.call (.f 22) [(.t 20),(.t 21), (cI 2), (cI 0)] [] []) 22,
 oV 22 19,
 mo (.ext 0 (.t 19)) 23,
 mo (.ext 1 (.t 19)) 24,
 mo (.alloc [(.sl []),(.int .i64 0),(.int .i64 0),(.int .i64 0),(.int .i64 0),(.sl [])]) 5,
 ⟨.st 6 (.t 5) (.t 23), none, none⟩,
 oV 24 6]))
 (.seq (.regI [.op (oV 4 25),
 .op (mo (.bin false .eql (.t 25) (cI 0)) 26),
 .op (oV 26 27),
 .grp mg_6m,
 .op (oV 32 33),
 .grp mg_6n,
 .op (oV 35 36),
 .grp mg_6o,
 .op (oV 42 0)])
 .ret))))))
theorem Wq_1b : Cn Tryz.prog 8 [] [] F_1b (fun z => .bool z) (fun z => []) := fun Q Q' h hQ => by
 refine acallM mc_1b [] [] [.t 0] Tryz.func8 fun M => ?_
 unfold F_1b at h
 unfold mc_1b
 replace h := tY h
 refine tB ?_
 repeat' (first
 | (exact tZ)
 | ((first | refine oblg h ?_ | refine roomG h ?_ | refine fork h ?_ ?_ | refine forkS h ?_ ?_) <;> clear h <;> intro hc h)
 | (obtain ⟨y, hy, h⟩ := h; (first | with_reducible first | have hw := Wq_i.w hy | have hw := Wq_c.w hy | have hw := Wq_2u.w hy | have hw := Wq_23.w hy); replace hw := tY hw; (first | refine M.sC hw ?_ | refine M.sD hw ?_); clear hw hy; refine tB ?_)
 | (refine M.gj1 (ms := mg_6o) [] [] (fun y => [(42, .bool y)]) (fun y => []) h ?_ ?_ <;> first
 | (clear h; intro Qn K hK1 h; unfold mg_6o; replace h := tY h; refine tB ?_)
  |(clear h; intro y h; replace h := tY h; refine tB ?_))
 | (refine M.gv1 (ms := mg_6n) 35 [34] h ?_ ?_ <;> first
 | (clear h; intro K hK2; unfold mg_6n; refine tB ?_)
 | (clear h; intro b h; replace h := tY h; refine tB ?_))
 | (refine M.gj1 (ms := mg_6m) [1,2,5,6] [5,2,1] (fun y => [(32, .bool y)]) (fun y => []) h ?_ ?_ <;> first
 | (clear h; intro Qn K hK3 h; unfold mg_6m; replace h := tY h; refine tB ?_)
  |(clear h; intro y h; replace h := tY h; refine tB ?_))
 | ((first | refine hK1 _ ?_ | refine hK3 _ ?_); (try refine tB ?_); refine ⟨_, h, ?_⟩; exact tU0; done)
 | (refine hK2 _ ?_; exact tU; done)
 | (refine bfork (fun hc => ?_) (fun hc => ?_))
 | (refine tE ?_; (first | rw [M.lok_compU] | rw [M.lokD_compU]); refine tB ?_)
 | (refine tA ?_))
def F_0 (t_ : GTape) (n_ : Int) : Option (Int × GTape) :=
 bif decide ((t_.L.length : Int) ≤ t_.at_) then some (0, t_) else chk (inb t_.at_ t_.L.length) (chk (in64 (t_.at_ + 1)) (chk (divs ((t_.L.getD (t_.at_).toNat default) % 2 ^ 16) n_) (some ((((t_.L.getD (t_.at_).toNat default) % 2 ^ 16) % n_), (GTape.mk t_.L (t_.at_ + 1))))))
def mc_0 : MC :=
 (sR [oC 0 4]
 (.seq (.seq (.regD [oV 0 6,
 mo (.nck (.t 6)) 7,
 oF 1 7 8,
 oL 8 9,
 oV 0 10,
 mo (.nck (.t 10)) 11,
 oF 0 11 12,
 oL 12 13,
 mo (.len false (.t 13)) 14,
 mo (.bin false .geq (.t 9) (.t 14)) 15]
 [[],[0],[1],[2],[],[4],[5],[6],[7],[3,8]]
 [[],[0],[0,1],[0,1,2],[],[4],[4,5],[4,5,6],[4,5,6,7],[0,1,2,3,4,5,6,7,8]])
 (.cond (.t 15)
 (sR [oC 0 4]
 .ret)
 .skip))
 (.seq (.note (.gc [0,1]) (.regD [oV 0 16,
 mo (.nck (.t 16)) 17,
 oF 0 17 18,
 oL 18 19,
 oV 0 20,
 mo (.nck (.t 20)) 21,
 oF 1 21 22,
 oL 22 23,
 mo (.iad 1 (.t 19) (.t 23)) 24,
 oL 24 25,
 mo (.mask 16 (.t 25) .i64) 26,
 oV 26 5]
 [[],[0],[1],[2],[],[4],[5],[6],[3,7],[8],[9],[10,0,1,2,3,4,5,6,7,8,9,10]]
 [[],[0],[0,1],[0,1,2],[],[4],[4,5],[4,5,6],[0,1,2,3,4,5,6,7],[0,1,2,3,4,5,6,7,8],[0,1,2,3,4,5,6,7,8,9],[0,1,2,3,4,5,6,7,8,9,10]]))
 (.seq (.note (.gc [0,1,5]) (.reg [oV 0 27,
 mo (.nck (.t 27)) 28,
 oF 1 28 29,
 oL 29 30,
 mo (.bin true .add (.t 30) (cI 1)) 31,
 mo (.nck (.t 27)) 32,
 oF 1 32 33,
 ⟨.st 1 (.t 33) (.t 31), none, none⟩]))
 (.seq (.note (.gc [1,5]) (.reg [oV 5 34,
 oV 1 35,
 mo (.bin true .rem (.t 34) (.t 35)) 36,
 oV 36 4]))
 .ret)))))
theorem Wq_0 {t_ : GTape} {n_ : Int} : Cn Tryz.prog 11 [.ptr 1000 0, .int .i64 n_] [(1000, .cells [.sl (t_.L.map (V.int .i64)), .int .i64 t_.at_])] (F_0 t_ n_) (fun z => .int .i64 z.1) (fun z => [(1000, .cells [.sl (z.2.L.map (V.int .i64)), .int .i64 z.2.at_])]) := fun Q Q' h hQ => by
 refine acallM mc_0 [] [1000] [.t 4] Tryz.func11 fun M => ?_
 unfold F_0 at h
 unfold mc_0
 replace h := tY h
 refine tB ?_
 repeat' (first
 | (exact tZ)
 | ((first | refine oblg h ?_ | refine roomG h ?_ | refine fork h ?_ ?_ | refine forkS h ?_ ?_) <;> clear h <;> intro hc h)
 | (refine tE ?_; (first | rw [M.lok_compU] | rw [M.lokD_compU]); refine tB ?_)
 | (refine tA ?_))
def F_1c (t_ : GTape) (a_ : Int) (b_ : Int) : Option (Int × GTape) :=
 chk (in64 (b_ - a_)) (chk (in64 ((b_ - a_) + 1)) ((F_0 t_ ((b_ - a_) + 1)).bind fun y2 => chk (in64 (a_ + y2.1)) (some ((a_ + y2.1), y2.2))))
def mc_1c : MC :=
 (sR [oC 0 6]
 (sR [oV 1 7,
 oV 0 8,
 oV 2 9,
 oV 1 10,
 mo (.bin true .sub (.t 9) (.t 10)) 11,
 mo (.bin true .add (.t 11) (cI 1)) 12,
 mo (.call (.f 11) [(.t 8),(.t 12)] [1000] []) 13,
 mo (.bin true .add (.t 7) (.t 13)) 14,
 oV 14 6]
 .ret))
theorem Wq_1c {t_ : GTape} {a_ b_ : Int} : Cn Tryz.prog 25 [.ptr 1000 0, .int .i64 a_, .int .i64 b_] [(1000, .cells [.sl (t_.L.map (V.int .i64)), .int .i64 t_.at_])] (F_1c t_ a_ b_) (fun z => .int .i64 z.1) (fun z => [(1000, .cells [.sl (z.2.L.map (V.int .i64)), .int .i64 z.2.at_])]) := fun Q Q' h hQ => by
 refine acallM mc_1c [] [1000] [.t 6] Tryz.func25 fun M => ?_
 unfold F_1c at h
 unfold mc_1c
 replace h := tY h
 refine tB ?_
 repeat' (first
 | (exact tZ)
 | ((first | refine oblg h ?_ | refine roomG h ?_ | refine fork h ?_ ?_ | refine forkS h ?_ ?_) <;> clear h <;> intro hc h)
 | (obtain ⟨y, hy, h⟩ := h; have hw := Wq_0.w hy; replace hw := tY hw; (first | refine M.sC hw ?_ | refine M.sD hw ?_); clear hw hy; refine tB ?_)
 | (refine tE ?_; (first | rw [M.lok_compU] | rw [M.lokD_compU]); refine tB ?_)
 | (refine tA ?_))
def F_1d (t_ : GTape) (l_ : List Int) : Option (Int × GTape) :=
 (F_0 t_ (l_.length : Int)).bind fun y2 => chk (inb y2.1 l_.length) (some ((l_.getD (y2.1).toNat default), y2.2))
def mc_1d : MC :=
 (sR [oC 0 4]
 (sR [oV 1 5,
 oV 0 6,
 oV 1 7,
 mo (.len false (.t 7)) 8,
 mo (.call (.f 11) [(.t 6),(.t 8)] [1000] []) 9,
 mo (.iad 1 (.t 5) (.t 9)) 10,
 oL 10 11,
 oV 11 4]
 .ret))
theorem Wq_1d {t_ : GTape} {l_ : List Int} : Cn Tryz.prog 26 [.ptr 1000 0, .sl (l_.map (V.int .i64))] [(1000, .cells [.sl (t_.L.map (V.int .i64)), .int .i64 t_.at_])] (F_1d t_ l_) (fun z => .int .i64 z.1) (fun z => [(1000, .cells [.sl (z.2.L.map (V.int .i64)), .int .i64 z.2.at_])]) := fun Q Q' h hQ => by
 refine acallM mc_1d [] [1000] [.t 4] Tryz.func26 fun M => ?_
 unfold F_1d at h
 unfold mc_1d
 replace h := tY h
 refine tB ?_
 repeat' (first
 | (exact tZ)
 | ((first | refine oblg h ?_ | refine roomG h ?_ | refine fork h ?_ ?_ | refine forkS h ?_ ?_) <;> clear h <;> intro hc h)
 | (obtain ⟨y, hy, h⟩ := h; have hw := Wq_0.w hy; replace hw := tY hw; (first | refine M.sC hw ?_ | refine M.sD hw ?_); clear hw hy; refine tB ?_)
 | (refine tE ?_; (first | rw [M.lok_compU] | rw [M.lokD_compU]); refine tB ?_)
 | (refine tA ?_))
noncomputable def F_40 (n_ : Int) (x29 : Int × Int × (List Int) × GTape) : Option (Fl (Int × Int × (List Int) × GTape) ((List Int) × GTape)) :=
 bif decide (x29.2.1 < n_) then (F_0 x29.2.2.2 3).bind fun y37 => chk (in64 (x29.1 + y37.1)) (chk (room (x29.2.2.1.length + [(x29.1 + y37.1)].length) 8) (chk (in64 (x29.2.1 + 1)) (some (.nx ((x29.1 + y37.1), (x29.2.1 + 1), (x29.2.2.1 ++ [(x29.1 + y37.1)]), y37.2))))) else some (.ex (x29.2.2.1, x29.2.2.2))
noncomputable def F_1e (t_ : GTape) (n_ : Int) : Option ((List Int) × GTape) :=
 (F_0 t_ 4).bind fun y2 => (loop (F_40 n_) (y2.1,0,[], y2.2)).bind fun r38 => some (r38.1, r38.2)
@[irreducible] def mc_40 : MC :=
 (.seq (sR [oV 7 10,
 oV 1 11,
 mo (.bin false .lss (.t 10) (.t 11)) 12]
 (.cond (.t 12)
 .skip
 (.exit 0)))
 (.seq (.block 1
 (sR [oV 6 15,
 oV 0 16,
 mo (.call (.f 11) [(.t 16), (cI 3)] [1000] []) 17,
 mo (.bin true .add (.t 15) (.t 17)) 18,
 oV 18 6]
 (.reg [oV 5 19,
 oV 6 20,
 mo (.bslice 1 [(.t 20)]) 21,
 mo (.app 1 8 (.t 19) (.t 21)) 22,
 oV 22 5])))
 (.note (.gc [0,1,5,6,7]) (.reg [oV 7 13,
 mo (.bin true .add (.t 13) (cI 1)) 14,
 oV 14 7]))))
def mc_1e : MC :=
 (sR [mo (.mv (.c (.sl []))) 4]
 (sR [mo (.mv (.c .nils)) 5]
 (sR [oV 0 8,
 mo (.call (.f 11) [(.t 8), (cI 4)] [1000] []) 9,
 oV 9 6]
 (.seq (sR [oC 0 7]
 (.block 0
 (.loop mc_40)))
 (sR [oV 5 23,
 oV 23 4]
 .ret)))))
theorem Wq_1e {t_ : GTape} {n_ : Int} : Cn Tryz.prog 27 [.ptr 1000 0, .int .i64 n_] [(1000, .cells [.sl (t_.L.map (V.int .i64)), .int .i64 t_.at_])] (F_1e t_ n_) (fun z => .sl (z.1.map (V.int .i64))) (fun z => [(1000, .cells [.sl (z.2.L.map (V.int .i64)), .int .i64 z.2.at_])]) := fun Q Q' h hQ => by
 refine acallM mc_1e [.fz 4] [1000] [.t 4] Tryz.func27 fun M => ?_
 unfold F_1e at h
 unfold mc_1e
 replace h := tY h
 refine tB ?_
 repeat' (first
 | (exact tZ)
 | ((first | refine oblg h ?_ | refine roomG h ?_ | refine fork h ?_ ?_ | refine forkS h ?_ ?_) <;> clear h <;> intro hc h)
 | (obtain ⟨y, hy, h⟩ := h; have hw := Wq_0.w hy; replace hw := tY hw; (first | refine M.sC hw ?_ | refine M.sD hw ?_); clear hw hy; refine tB ?_)
 | (refine M.wh1 (b := mc_40) [0,1] [] (fun x => [(5, .osl 2005 1 0 x.2.2.1.length), (6, .int .i64 x.1), (7, .int .i64 x.2.1)]) (fun x => [.o 2005 (.arr 1 (x.2.2.1.map (V.int .i64))), .o 1000 (.cells [.sl (x.2.2.2.L.map (V.int .i64)), .int .i64 x.2.2.2.at_])]) [.gc [0,1,5,6,7], .acc 5 2005 1] h ?_ ?_ <;> first
 | (clear h; intro x Qn K hK1 h; unfold F_40 at h; unfold mc_40; replace h := tY h; refine tB ?_)
  |(clear h; (try refine tB ?_); exact tU0; done))
 | (refine hK1 _ ?_; (try refine tB ?_); refine ⟨_, h, ?_⟩; exact tU0; done)
 | (refine tE ?_; (first | rw [M.lok_compU] | rw [M.lokD_compU]); refine tB ?_)
 | (refine tA ?_))
noncomputable def F_41 (x21 : Int × (List Int) × GTape) : Option (Fl (Int × (List Int) × GTape) ((List Int) × GTape)) :=
 bif decide (0 < x21.1) then (F_1d x21.2.2 [2,2,1,3]).bind fun y25 => chk (room (x21.2.1.length + [y25.1].length) 8) (chk (in64 (x21.1 - 1)) (some (.nx ((x21.1 - 1), (x21.2.1 ++ [y25.1]), y25.2)))) else some (.ex (x21.2.1, x21.2.2))
noncomputable def F_3k (k42 : Int) (a43 : Int) (x41 : List Int) : Option (List Int) :=
 bif decide (a43 = 2) then chk (room (x41.length + [k42].length) 8) (some (x41 ++ [k42])) else some x41
noncomputable def F_3l (r26 : (List Int) × GTape) (x44 : List Int) (k166 : Int) (a167 : Int) (x165 : (List GMember) × GTape) : Option ((List GMember) × GTape) :=
 (F_0 x165.2 (r26.1.length : Int)).bind fun y191 => (F_0 y191.2 (x44.length : Int)).bind fun y192 => chk (inb y192.1 x44.length) (jn (α := GMember × GTape) ((F_0 y192.2 4).bind fun y197 => bif decide (y197.1 = 3) then some ((GMember.mk a167 2 y191.1 (x44.getD ((y192.1).toNat) default)), y197.2) else some ((GMember.mk a167 1 y191.1 (x44.getD ((y192.1).toNat) default)), y197.2)) fun j195 => bif (!decide (j195.1.Principal = j195.1.Group)) then chk (room (x165.1.length + [j195.1].length) 32) (some ((x165.1 ++ [j195.1]), j195.2)) else some (x165.1, j195.2))
noncomputable def F_24 (t_ : GTape) : Option (GDirectory × GTape) :=
 (F_1c t_ 2 6).bind fun y14 => (loop F_41 (y14.1,[1], y14.2)).bind fun r26 => (foldL F_3k r26.1 0 []).bind fun x44 => bif decide ((x44.length : Int) = 0) then some ((GDirectory.mk r26.1 []), r26.2) else (F_0 r26.2 12).bind fun y116 => (F_1e y116.2 y116.1).bind fun y117 => (foldL (F_3l r26 x44) y117.1 0 ([], y117.2)).bind fun x198 => some ((GDirectory.mk r26.1 x198.1), x198.2)
@[irreducible] def mc_41 : MC :=
 (.seq (sR [oV 4 15,
 mo (.bin false .gtr (.t 15) (cI 0)) 16]
 (.cond (.t 16)
 .skip
 (.exit 0)))
 (.seq (.block 1
 (.regD [oF 0 3 19,
 oL 19 20,
 oV 0 21,
 mo (.lsl 1 [(cI 2), (cI 2), (cI 1), (cI 3)]) 22,
 mo (.call (.f 26) [(.t 21),(.t 22)] [1000] []) 23,
 mo (.bslice 1 [(.t 23)]) 24,
 mo (.app 1 8 (.t 20) (.t 24)) 25,
 oF 0 3 26,
 ⟨.st 1 (.t 26) (.t 25), none, none⟩]
 [[],[0],[],[],[2,3],[4],[1,5,4],[0,1,2,3,4,5,6],[7,6,6,0,1,2,3,4,5,6]]
 [[],[0],[],[],[2,3],[2,3,4],[0,1,2,3,4,5],[0,1,2,3,4,5,6],[0,1,2,3,4,5,6,7]]))
 (.note (.gc [0,2,3,4]) (.reg [oV 4 17,
 mo (.bin true .sub (.t 17) (cI 1)) 18,
 oV 18 4]))))
@[irreducible] def mc_3k : MC :=
 (sR [mo (.bin false .lss (.t 30) (.t 29)) 31]
 (.seq (.cond (.t 31)
 .skip
 (.exit 2))
 (.seq (.block 3
 (sR [oV 30 32,
 mo (.iad 1 (.t 28) (.t 30)) 33,
 oL 33 34,
 oV 32 6,
 oV 34 7]
 (sR [oV 7 35,
 mo (.bin false .eql (.t 35) (cI 2)) 36]
 (.cond (.t 36)
 (.reg [oV 5 37,
 oV 6 38,
 mo (.bslice 1 [(.t 38)]) 39,
 mo (.app 1 8 (.t 37) (.t 39)) 40,
 oV 40 5])
 .skip))))
 (.reg [mo (.bin true .add (.t 30) (cI 1)) 41,
 oV 41 30]))))
@[irreducible] def mc_6p : MC :=
 (sR [oF 2 10 73,
 oL 73 74,
 oF 3 10 75,
 oL 75 76,
 mo (.bin false .neq (.t 74) (.t 76)) 77]
 (.cond (.t 77)
 (.reg [oF 1 3 78,
 oL 78 79,
 mo (.ld (some 4) (.t 10)) 80,
 mo (.bslice 4 [(.t 80)]) 81,
 mo (.app 4 32 (.t 79) (.t 81)) 82,
 oF 1 3 83,
 ⟨.st 1 (.t 83) (.t 82), none, none⟩])
 .skip))
@[irreducible] def mc_3l : MC :=
 (sR [mo (.bin false .lss (.t 51) (.t 50)) 52]
 (.seq (.cond (.t 52)
 .skip
 (.exit 4))
 (.seq (.block 5
 (sR [mo (.iad 1 (.t 49) (.t 51)) 53,
 oL 53 54,
 oV 54 9]
 (sR [oV 9 55,
 oV 0 56,
 oF 0 3 57,
 oL 57 58,
 mo (.len false (.t 58)) 59,
 mo (.call (.f 11) [(.t 56),(.t 59)] [1000] []) 60,
 oV 5 61,
 oV 0 62,
 oV 5 63,
 mo (.len false (.t 63)) 64,
 mo (.call (.f 11) [(.t 62),(.t 64)] [1000] []) 65,
 mo (.iad 1 (.t 61) (.t 65)) 66,
 oL 66 67,
 mo (.build [(.int .i64 0),(.int .i64 0),(.int .i64 0),(.int .i64 0)] [(0,1,(.t 55)), (1,1, (cI 1)), (2,1,(.t 60)), (3,1,(.t 67))]) 68,
 mo (.alloc [(.int .i64 0),(.int .i64 0),(.int .i64 0),(.int .i64 0)]) 10,
 ⟨.st 4 (.t 10) (.t 68), none, none⟩]
 (.cut (.seq (.note (.gc [0,2,3,5,10,49,50,51]) (.reg [oV 0 69,
 mo (.call (.f 11) [(.t 69), (cI 4)] [1000] []) 70,
 mo (.bin false .eql (.t 70) (cI 3)) 71]))
 (.cond (.t 71)
 (.reg [oF 1 10 72,
 ⟨.st 1 (.t 72) (cI 2), none, none⟩])
 .skip))
 mc_6p))))
 (.reg [mo (.bin true .add (.t 51) (cI 1)) 84,
 oV 84 51]))))
def mc_24 : MC :=
 (sR [mo (.alloc [(.sl []),(.sl [])]) 2]
 (sR [mo (.bslice 1 [(cI 1)]) 11,
 mo (.build [.nils, .nils] [(0,1,(.t 11))]) 12,
 mo (.alloc [(.sl []),(.sl [])]) 3,
 ⟨.st 2 (.t 3) (.t 12), none, none⟩]
 (.seq (sR [oV 0 13,
 mo (.call (.f 25) [(.t 13), (cI 2), (cI 6)] [1000] []) 14,
 oV 14 4]
 (.block 0
 (.loop mc_41)))
 (sR [mo (.mv (.c .nils)) 5]
 (.seq (sR [oF 0 3 27,
 oL 27 28,
 mo (.len false (.t 28)) 29,
 oC 0 30]
 (.block 2
 (.loop mc_3k)))
 (.seq (sR [oV 5 42,
 mo (.len false (.t 42)) 43,
 mo (.bin false .eql (.t 43) (cI 0)) 44]
 (.cond (.t 44)
 (sR [mo (.ld (some 2) (.t 3)) 45,
 ⟨.st 2 (.t 2) (.t 45), none, none⟩]
 .ret)
 .skip))
 (.seq (sR [oV 0 46,
 oV 0 47,
 mo (.call (.f 11) [(.t 47), (cI 12)] [1000] []) 48,
 mo (.call (.f 27) [(.t 46),(.t 48)] [1000] []) 49,
 mo (.len false (.t 49)) 50,
 oC 0 51]
 (.block 4
 (.loop mc_3l)))
 (sR [mo (.ld (some 2) (.t 3)) 85,
 ⟨.st 2 (.t 2) (.t 85), none, none⟩]
 .ret))))))))
theorem Wq_24 {t_ : GTape} : Cn Tryz.prog 9 [.ptr 1000 0] [(1000, .cells [.sl (t_.L.map (V.int .i64)), .int .i64 t_.at_])] (F_24 t_) (fun z => GDirectory.v z.1) (fun z => [(1000, .cells [.sl (z.2.L.map (V.int .i64)), .int .i64 z.2.at_])]) := fun Q Q' h hQ => by
 refine acallM mc_24 [.fzc 2] [1000] [.c 2 (some 2)] Tryz.func9 fun M => ?_
 unfold F_24 at h
 unfold mc_24
 replace h := tY h
 refine tB ?_
 repeat' (first
 | (exact tZ)
 | ((first | refine oblg h ?_ | refine roomG h ?_ | refine fork h ?_ ?_ | refine forkS h ?_ ?_) <;> clear h <;> intro hc h)
 | (obtain ⟨y, hy, h⟩ := h; (first | with_reducible first | have hw := Wq_1c.w hy | have hw := Wq_1d.w hy | have hw := Wq_0.w hy | have hw := Wq_1e.w hy); replace hw := tY hw; (first | refine M.sC hw ?_ | refine M.sD hw ?_); clear hw hy; refine tB ?_)
 | (refine M.wh1 (b := mc_41) [0,2,3] [3,2] (fun x => [(4, .int .i64 x.1)]) (fun x => [.p 3 0 [.osl 4048 1 0 x.2.1.length], .o 4048 (.arr 1 (x.2.1.map (V.int .i64))), .o 1000 (.cells [.sl (x.2.2.L.map (V.int .i64)), .int .i64 x.2.2.at_])]) [.gc [0,2,3,4], .ownC 3 0 4048 1 none] h ?_ ?_ <;> first
 | (clear h; intro x Qn K hK1 h; unfold F_41 at h; unfold mc_41; replace h := tY h; refine tB ?_)
  |(clear h; (try refine tB ?_); exact tU0; done))
 | (refine M.fold1 (b := mc_3k) 30 [0,2,3,28,29] [4048,3,2,1000] (fun x => [(5, .osl 2005 1 0 x.length)]) (fun x => [.o 2005 (.arr 1 (x.map (V.int .i64)))]) [.gc [0,2,3,5,28,29,30], .acc 5 2005 1] h ?_ ?_ ?_ <;> first
 | (clear h; intro k a x Qn K hK2 hkN2 ha2 h hf; have hl := fact_int (factsE_find (n := 29) hf.1 rfl); clear hf; have hkd := kD hkN2; have hkB2 := kB hkN2; have hkI2 := kI (k := k) (by omega); unfold F_3k at h; unfold mc_3k; replace h := tY h; refine tK ha2 hkd hkN2 hkB2 hkI2 ?_)
  |(clear h; intro x K h; replace h := And.left (And.intro h trivial); unfold mc_3k; replace h := tY h; refine tB ?_)
  |(clear h; (try refine tB ?_); exact tU0; done))
 | (refine M.jn1 (b := mc_6p) [0,2,3,5,10,49,50,51] [2005,3,4048,4049,2] (fun y => []) (fun y => [.o 10 (.cells [.int .i64 y.1.Time, .int .i64 y.1.Kind, .int .i64 y.1.Principal, .int .i64 y.1.Group]), .o 1000 (.cells [.sl (y.2.L.map (V.int .i64)), .int .i64 y.2.at_])]) [] h ?_ ?_ <;> first
 | (clear h; intro Qn K hK3 h; replace h := tY h; refine tB ?_)
  |(clear h; intro y h; unfold mc_6p; replace h := tY h; refine tB ?_))
 | (refine M.fold1 (b := mc_3l) 51 [0,2,3,5,49,50] [2005,3,4048,2] (fun x => []) (fun x => [.p 3 1 [.osl 4049 4 0 x.1.length], .o 4049 (.arr 4 (x.1.map GMember.v)), .o 1000 (.cells [.sl (x.2.L.map (V.int .i64)), .int .i64 x.2.at_])]) [.gc [0,2,3,5,49,50,51], .ownC 3 1 4049 4 none] h ?_ ?_ ?_ <;> first
 | (clear h; intro k a x Qn K hK4 hkN4 ha4 h hf; have hl := fact_int (factsE_find (n := 50) hf.1 rfl); clear hf; have hkd := kD hkN4; have hkB4 := kB hkN4; have hkI4 := kI (k := k) (by omega); unfold F_3l at h; unfold mc_3l; replace h := tY h; refine tK ha4 hkd hkN4 hkB4 hkI4 ?_)
  |(clear h; intro x K h; replace h := And.left (And.intro h trivial); unfold mc_3l; replace h := tY h; refine tB ?_)
  |(clear h; (try refine tB ?_); exact tU0; done))
 | (first | simp only [ha2] | simp only [ha4])
 | ((first | refine hK1 _ ?_ | refine hK2 _ ?_ | refine hK3 _ ?_ | refine hK4 _ ?_); (try refine tB ?_); refine ⟨_, h, ?_⟩; exact tU0; done)
 | (refine tE ?_; (first | rw [M.lok_compU] | rw [M.lokD_compU]); refine tB ?_)
 | (refine tA ?_))
noncomputable def F_3m (d_ : GDirectory) (k208 : Int) (a209 : Int) (x207 : Int × (List GAccess) × GTape) : Option (Int × (List GAccess) × GTape) :=
 (F_1d x207.2.2 [1,1,2,3,4,5,5,6,7,7]).bind fun y251 => (F_0 y251.2 x207.1).bind fun y252 => jn (α := Fl (GAccess × GTape) GTape) (jn (α := Bool) (bif decide (y251.1 = 1) then some true else some (decide (y251.1 = 2))) fun j261 => bif j261 then chk (in64 ((d_.Kinds.length : Int) + 1)) ((F_0 y252.2 ((d_.Kinds.length : Int) + 1)).bind fun y262 => some (.nx ((GAccess.mk a209 y251.1 y252.1 y262.1 0 0 0), y262.2))) else bif decide (y251.1 = 3) then chk (in64 (a209 + 1)) ((F_0 y252.2 5).bind fun y263 => chk (in64 ((a209 + 1) + y263.1)) (some (.nx ((GAccess.mk a209 y251.1 y252.1 0 ((a209 + 1) + y263.1) 0 0), y263.2)))) else jn (α := Bool) (bif decide (y251.1 = 5) then some true else some (decide (y251.1 = 6))) fun j264 => bif j264 then (F_0 y252.2 3).bind fun y265 => some (.nx ((GAccess.mk a209 y251.1 y252.1 0 0 y265.1 0), y265.2)) else bif decide (y251.1 = 7) then (F_0 y252.2 x207.1).bind fun y267 => bif decide (y267.1 = y252.1) then some (.ex y267.2) else some (.nx ((GAccess.mk a209 y251.1 y252.1 0 0 0 y267.1), y267.2)) else some (.nx ((GAccess.mk a209 y251.1 y252.1 0 0 0 0), y252.2))) fun o => o.elim (fun j260 => chk (room (x207.2.1.length + [j260.1].length) 56) (some (x207.1, (x207.2.1 ++ [j260.1]), j260.2))) (fun r268 => some (x207.1, x207.2.1, r268))
noncomputable def F_25 (t_ : GTape) (d_ : GDirectory) : Option (GEstate × GTape) :=
 (F_1c t_ 1 4).bind fun y2 => (F_0 y2.2 16).bind fun y122 => (F_1e y122.2 y122.1).bind fun y123 => (foldL (F_3m d_) y123.1 0 (y2.1,[], y123.2)).bind fun x269 => some ((GEstate.mk x269.1 x269.2.1), x269.2.2)
@[irreducible] def mc_6q : MC :=
 (.cond (.t 50)
 (.reg [oV 0 53,
 mo (.call (.f 11) [(.t 53), (cI 3)] [1000] []) 54,
 oF 5 8 55,
 ⟨.st 1 (.t 55) (.t 54), none, none⟩])
 (sR [mo (.bin false .eql (.t 31) (cI 7)) 57,
 oV 57 56]
 (.cond (.t 56)
 (sR [oV 0 58,
 oF 0 5 59,
 oL 59 60,
 mo (.call (.f 11) [(.t 58),(.t 60)] [1000] []) 61,
 oF 6 8 62,
 ⟨.st 1 (.t 62) (.t 61), none, none⟩]
 (.seq (.note (.gc [0,3,4,5,8,15,16,17]) (.reg [oF 6 8 63,
 oL 63 64,
 oF 2 8 65,
 oL 65 66,
 mo (.bin false .eql (.t 64) (.t 66)) 67]))
 (.cond (.t 67)
 (.exit 1)
 .skip)))
 .skip)))
@[irreducible] def mc_6r : MC :=
 (.cond (.t 32)
 (.reg [oV 0 35,
 oF 0 3 36,
 oL 36 37,
 mo (.len false (.t 37)) 38,
 mo (.bin true .add (.t 38) (cI 1)) 39,
 mo (.call (.f 11) [(.t 35),(.t 39)] [1000] []) 40,
 oF 3 8 41,
 ⟨.st 1 (.t 41) (.t 40), none, none⟩])
 (sR [mo (.bin false .eql (.t 31) (cI 3)) 43,
 oV 43 42]
 (.cond (.t 42)
 (.reg [oV 7 44,
 mo (.bin true .add (.t 44) (cI 1)) 45,
 oV 0 46,
 mo (.call (.f 11) [(.t 46), (cI 5)] [1000] []) 47,
 mo (.bin true .add (.t 45) (.t 47)) 48,
 oF 4 8 49,
 ⟨.st 1 (.t 49) (.t 48), none, none⟩])
 (.cut (sR [mo (.bin false .eql (.t 31) (cI 5)) 51,
 oV 51 50]
 (.cond (.t 50)
 .skip
 (.reg [mo (.bin false .eql (.t 31) (cI 6)) 52,
 oV 52 50])))
 mc_6q))))
@[irreducible] def mc_6s : MC :=
 (.reg [oF 1 5 68,
 oL 68 69,
 mo (.ld (some 7) (.t 8)) 70,
 mo (.bslice 7 [(.t 70)]) 71,
 mo (.app 7 56 (.t 69) (.t 71)) 72,
 oF 1 5 73,
 ⟨.st 1 (.t 73) (.t 72), none, none⟩])
@[irreducible] def mc_3m : MC :=
 (sR [mo (.bin false .lss (.t 17) (.t 16)) 18]
 (.seq (.cond (.t 18)
 .skip
 (.exit 0))
 (.seq (.block 1
 (sR [mo (.iad 1 (.t 15) (.t 17)) 19,
 oL 19 20,
 oV 20 7]
 (.seq (.regD [oV 7 21,
 oV 0 22,
 mo (.lsl 1 [(cI 1), (cI 1), (cI 2), (cI 3), (cI 4), (cI 5), (cI 5), (cI 6), (cI 7), (cI 7)]) 23,
 mo (.call (.f 26) [(.t 22),(.t 23)] [1000] []) 24,
 oV 0 25,
 oF 0 5 26,
 oL 26 27,
 mo (.call (.f 11) [(.t 25),(.t 27)] [1000] []) 28,
 mo (.build [(.int .i64 0),(.int .i64 0),(.int .i64 0),(.int .i64 0),(.int .i64 0),(.int .i64 0),(.int .i64 0)] [(0,1,(.t 21)), (1,1,(.t 24)), (2,1,(.t 28))]) 29,
 mo (.alloc [(.int .i64 0),(.int .i64 0),(.int .i64 0),(.int .i64 0),(.int .i64 0),(.int .i64 0),(.int .i64 0)]) 8,
 ⟨.st 7 (.t 8) (.t 29), none, none⟩]
 [[],[],[],[1,2],[],[],[5],[4,6,3],[0,3,7],[],[9,8,7,0,1,2,3,4,5,6,7,8,9]]
 [[],[],[],[1,2],[],[],[5],[1,2,3,4,5,6],[0,1,2,3,4,5,6,7],[],[0,1,2,3,4,5,6,7,8,9]])
 (.cut (sR [oF 1 8 30,
 oL 30 31]
 (.block 2
 (.cut (sR [mo (.bin false .eql (.t 31) (cI 1)) 33,
 oV 33 32]
 (.cond (.t 32)
 .skip
 (.reg [mo (.bin false .eql (.t 31) (cI 2)) 34,
 oV 34 32])))
 mc_6r)))
 mc_6s))))
 (.reg [mo (.bin true .add (.t 17) (cI 1)) 74,
 oV 74 17]))))
def mc_25 : MC :=
 (sR [mo (.box (.t 1)) 3,
 mo (.alloc [(.int .i64 0),(.sl [])]) 4]
 (sR [oV 0 9,
 mo (.call (.f 25) [(.t 9), (cI 1), (cI 4)] [1000] []) 10,
 mo (.build [(.int .i64 0), .nils] [(0,1,(.t 10))]) 11,
 mo (.alloc [(.int .i64 0),(.sl [])]) 5,
 ⟨.st 2 (.t 5) (.t 11), none, none⟩]
 (.seq (sR [oV 0 12,
 oV 0 13,
 mo (.call (.f 11) [(.t 13), (cI 16)] [1000] []) 14,
 mo (.call (.f 27) [(.t 12),(.t 14)] [1000] []) 15,
 mo (.len false (.t 15)) 16,
 oC 0 17]
 (.block 0
 (.loop mc_3m)))
 (sR [mo (.ld (some 2) (.t 5)) 75,
 ⟨.st 2 (.t 4) (.t 75), none, none⟩]
 .ret))))
theorem Wq_25 {t_ : GTape} {d_ : GDirectory} : Cn Tryz.prog 10 [.ptr 1000 0, GDirectory.v d_] [(1000, .cells [.sl (t_.L.map (V.int .i64)), .int .i64 t_.at_])] (F_25 t_ d_) (fun z => GEstate.v z.1) (fun z => [(1000, .cells [.sl (z.2.L.map (V.int .i64)), .int .i64 z.2.at_])]) := fun Q Q' h hQ => by
 refine acallM mc_25 [.fzc 4] [1000] [.c 4 (some 2)] Tryz.func10 fun M => ?_
 unfold F_25 at h
 unfold mc_25
 replace h := tY h
 refine tB ?_
 repeat' (first
 | (exact tZ)
 | ((first | refine oblg h ?_ | refine roomG h ?_ | refine fork h ?_ ?_ | refine forkS h ?_ ?_) <;> clear h <;> intro hc h)
 | (obtain ⟨y, hy, h⟩ := h; (first | with_reducible first | have hw := Wq_1c.w hy | have hw := Wq_0.w hy | have hw := Wq_1e.w hy | have hw := Wq_1d.w hy); replace hw := tY hw; (first | refine M.sC hw ?_ | refine M.sD hw ?_); clear hw hy; refine tB ?_)
 | (refine M.jn1 (b := mc_6q) [0,3,4,5,8,15,16,17,31] [8,5,4081,4,3,1000] (fun y => [(50, .bool y)]) (fun y => []) [] h ?_ ?_ <;> first
 | (clear h; intro Qn K hK1 h; replace h := tY h; refine tB ?_)
  |(clear h; intro y h; unfold mc_6q; replace h := tY h; refine tB ?_))
 | (refine M.jn1 (b := mc_6r) [0,3,4,5,7,8,15,16,17,31] [8,5,4081,4,3,1000] (fun y => [(32, .bool y)]) (fun y => []) [] h ?_ ?_ <;> first
 | (clear h; intro Qn K hK2 h; replace h := tY h; refine tB ?_)
  |(clear h; intro y h; unfold mc_6r; replace h := tY h; refine tB ?_))
 | (refine M.jnE (b := mc_6s) [0,3,4,5,8,15,16,17] [5,4081,4,3] (fun y => []) (fun y => [.o 8 (.cells [.int .i64 y.1.Time, .int .i64 y.1.Kind, .int .i64 y.1.Place, .int .i64 y.1.Principal, .int .i64 y.1.Until, .int .i64 y.1.Content, .int .i64 y.1.From]), .o 1000 (.cells [.sl (y.2.L.map (V.int .i64)), .int .i64 y.2.at_])]) [] h ?_ ?_ <;> first
 | (clear h; intro Qn K hK3 h; replace h := tY h; refine tB ?_)
  |(clear h; intro y h; unfold mc_6s; replace h := tY h; refine tB ?_))
 | (refine M.fold1 (b := mc_3m) 17 [0,3,4,5,15,16] [4,3] (fun x => []) (fun x => [.o 5 (.cells [.int .i64 x.1, .osl 4081 7 0 x.2.1.length]), .o 4081 (.arr 7 (x.2.1.map GAccess.v)), .o 1000 (.cells [.sl (x.2.2.L.map (V.int .i64)), .int .i64 x.2.2.at_])]) [.gc [0,3,4,5,15,16,17], .ownC 5 1 4081 7 none] h ?_ ?_ ?_ <;> first
 | (clear h; intro k a x Qn K hK4 hkN4 ha4 h hf; have hl := fact_int (factsE_find (n := 16) hf.1 rfl); clear hf; have hkd := kD hkN4; have hkB4 := kB hkN4; have hkI4 := kI (k := k) (by omega); unfold F_3m at h; unfold mc_3m; replace h := tY h; refine tK ha4 hkd hkN4 hkB4 hkI4 ?_)
  |(clear h; intro x K h; replace h := And.left (And.intro h trivial); unfold mc_3m; replace h := tY h; refine tB ?_)
  |(clear h; (try refine tB ?_); exact tU0; done))
 | (simp only [ha4])
 | ((first | refine hK1 _ ?_ | refine hK2 _ ?_ | refine hK3 _ ?_ | refine hK4 _ ?_); (try refine tB ?_); refine ⟨_, h, ?_⟩; exact tU0; done)
 | (refine tE ?_; (first | rw [M.lok_compU] | rw [M.lokD_compU]); refine tB ?_)
 | (refine tA ?_))
end Go.Ab
