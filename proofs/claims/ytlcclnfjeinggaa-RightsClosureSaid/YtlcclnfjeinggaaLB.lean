/- What the functions of this seat that lie on the laws' road compute (part LB), each for every input. By AI agents. -/
import Derived.Test.YtlcclnfjeinggaaProg
import Derived.KernelRfl
import Derived.Test.YtlcclnfjeinggaaAbFun
import Derived.Test.YtlcclnfjeinggaaLA
set_option linter.all false
set_option linter.all false
set_option maxRecDepth 20000
set_option maxHeartbeats 2000000
namespace Go.Ab
open Go.Proofs
structure GTape where
 L : List Int
 at_ : Int
instance : Inhabited GTape := ⟨⟨default, default⟩⟩
def GTape.v (x : GTape) : V := .agg [.sl (x.L.map (V.int .i64)), .int .i64 x.at_]
theorem incl_0 {b : Int} {n : Nat} : (inc 0 b n = true) = (((0 : Nat) : Int) ≤ b ∧ b ≤ (n : Int)) := propext (by rw [inc_iff]; omega)
attribute [go_sem] incl_0
attribute [go_sem] GTape.v
def F_1j (b_ : List Int) (k11 : Int) (a12 : Int) (x10 : Unit) : Option (Fl Unit Bool) :=
 chk (inb k11 b_.length) (bif (!decide (a12 = (b_.getD (k11).toNat default))) then some (.ex false) else some (.nx ()))
def F_g (a_ : List Int) (b_ : List Int) : Option Bool :=
 bif (!decide ((a_.length : Int) = (b_.length : Int))) then some false else (forL (F_1j b_) a_ 0 ()).bind fun o => o.elim (fun x13 => some true) (fun r14 => some r14)
@[irreducible] def mc_1j : MC :=
 (sR [mo (.bin false .lss (.t 13) (.t 12)) 14]
 (.seq (.cond (.t 14)
 .skip
 (.exit 0))
 (.seq (.block 1
 (sR [oV 13 15,
 oV 15 5]
 (.seq (.regD [oV 0 16,
 oV 5 17,
 mo (.iad 1 (.t 16) (.t 17)) 18,
 oL 18 19,
 oV 1 20,
 oV 5 21,
 mo (.iad 1 (.t 20) (.t 21)) 22,
 oL 22 23,
 mo (.bin false .neq (.t 19) (.t 23)) 24]
 [[],[],[0,1],[2],[],[],[4,5],[6],[3,7]]
 [[],[],[0,1],[0,1,2],[],[],[4,5],[4,5,6],[0,1,2,3,4,5,6,7]])
 (.cond (.t 24)
 (sR [mo (.mv (.c (.bool false))) 4]
 .ret)
 .skip))))
 (.reg [mo (.bin true .add (.t 13) (cI 1)) 25,
 oV 25 13]))))
def mc_g : MC :=
 (sR [mo (.mv (.c (.bool false))) 4]
 (.seq (sR [oV 0 6,
 mo (.len false (.t 6)) 7,
 oV 1 8,
 mo (.len false (.t 8)) 9,
 mo (.bin false .neq (.t 7) (.t 9)) 10]
 (.cond (.t 10)
 (sR [mo (.mv (.c (.bool false))) 4]
 .ret)
 .skip))
 (.seq (sR [oV 0 11,
 mo (.len false (.t 11)) 12,
 oC 0 13]
 (.block 0
 (.loop mc_1j)))
 (sR [mo (.mv (.c (.bool true))) 4]
 .ret))))
theorem Wq_g {a_ b_ : List Int} : Cn Try.prog 14 [.sl (a_.map (V.int .i64)), .sl (b_.map (V.int .i64))] [] (F_g a_ b_) (fun z => .bool z) (fun z => []) := fun Q Q' h hQ => by
 refine acallM mc_g [] [] [.t 4] Try.func14 fun M => ?_
 unfold F_g at h
 unfold mc_g
 replace h := tY h
 refine tB ?_
 repeat' (first
 | (exact tZ)
 | ((first | refine oblg h ?_ | refine roomG h ?_ | refine fork h ?_ ?_ | refine forkS h ?_ ?_) <;> clear h <;> intro hc h)
 | (refine M.for1 (b := mc_1j) 13 [0,1,12] [] (fun x => []) (fun x => []) [] h ?_ ?_ ?_ <;> first
 | (clear h; intro k a x Qn K hK1 hkN1 ha1 h hf; have hl := fact_int (factsE_find (n := 12) hf.1 rfl); clear hf; have hkd := kD hkN1; have hkB1 := kB hkN1; have hkI1 := kI (k := k) (by omega); unfold F_1j at h; unfold mc_1j; replace h := tY h; refine tK ha1 hkd hkN1 hkB1 hkI1 ?_)
  |(clear h; intro x K h; replace h := And.left (And.intro h trivial); unfold mc_1j; replace h := tY h; refine tB ?_)
  |(clear h; (try refine tB ?_); exact tU0; done))
 | (simp only [ha1])
 | (refine hK1 _ ?_; (try refine tB ?_); refine ⟨_, h, ?_⟩; exact tU0; done)
 | (refine tE ?_; (first | rw [M.lok_compU] | rw [M.lokD_compU]); refine tB ?_)
 | (refine tA ?_)
 | fail)
def F_1 (x_ : Int) (low_ : Int) (high_ : Int) : Option Bool :=
 grp ((decide (low_ ≤ x_) && decide (x_ ≤ high_))) fun b2 => some b2
@[irreducible] def mg_2b : List MOp := [gT 10 11 (.mv (.t 0)),
 gT 10 12 (.mv (.t 2)),
 gT 10 13 (.bin false .leq (.t 11) (.t 12)),
 mo (.pick (.t 10) (.t 13) (.c (.bool false))) 14]
def mc_1 : MC :=
 (sR [mo (.mv (.c (.bool false))) 6]
 (.seq (.regI [.op (oV 0 7),
 .op (oV 1 8),
 .op (mo (.bin false .geq (.t 7) (.t 8)) 9),
 .op (oV 9 10),
 .grp mg_2b,
 .op (oV 14 6)])
 .ret))
theorem Wq_1 {x_ low_ high_ : Int} : Cn Try.prog 34 [.int .i64 x_, .int .i64 low_, .int .i64 high_] [] (F_1 x_ low_ high_) (fun z => .bool z) (fun z => []) := fun Q Q' h hQ => by
 refine acallM mc_1 [] [] [.t 6] Try.func34 fun M => ?_
 unfold F_1 at h
 unfold mc_1
 replace h := tY h
 refine tB ?_
 repeat' (first
 | (exact tZ)
 | ((first | refine oblg h ?_ | refine roomG h ?_ | refine fork h ?_ ?_ | refine forkS h ?_ ?_) <;> clear h <;> intro hc h)
 | (refine M.gv1 (ms := mg_2b) 14 [11,12,13] h ?_ ?_ <;> first
 | (clear h; intro K hK1; unfold mg_2b; refine tB ?_)
 | (clear h; intro b h; replace h := tY h; refine tB ?_))
 | (refine hK1 _ ?_; exact tU; done)
 | (refine bfork (fun hc => ?_) (fun hc => ?_))
 | (refine tE ?_; (first | rw [M.lok_compU] | rw [M.lokD_compU]); refine tB ?_)
 | (refine tA ?_)
 | fail)
def F_1o (x_ : GRights) (k104 : Int) (a105 : GGrant) (x103 : Unit) : Option (Fl Unit Bool) :=
 chk (in64 (x_.Credentials - 1)) ((F_1 a105.Credential 0 (x_.Credentials - 1)).bind fun y127 => bif (!y127) then some (.ex false) else chk (in64 (x_.Resources - 1)) ((F_1 a105.Resource 0 (x_.Resources - 1)).bind fun y128 => bif (!y128) then some (.ex false) else (F_1 a105.Right 1 3).bind fun y129 => bif (!y129) then some (.ex false) else some (.nx ())))
def F_1p (x_ : GRights) (k182 : Int) (a183 : GStore) (x181 : Unit) : Option (Fl Unit Bool) :=
 chk (in64 (x_.Resources - 1)) ((F_1 a183.Resource 0 (x_.Resources - 1)).bind fun y198 => bif (!y198) then some (.ex false) else chk (in64 (x_.Credentials - 1)) ((F_1 a183.Credential 0 (x_.Credentials - 1)).bind fun y199 => bif (!y199) then some (.ex false) else some (.nx ())))
def F_1q (x_ : GRights) (k252 : Int) (a253 : GMint) (x251 : Unit) : Option (Fl Unit Bool) :=
 chk (in64 (x_.Credentials - 1)) ((F_1 a253.From 0 (x_.Credentials - 1)).bind fun y268 => bif (!y268) then some (.ex false) else chk (in64 (x_.Credentials - 1)) ((F_1 a253.To 0 (x_.Credentials - 1)).bind fun y269 => bif (!y269) then some (.ex false) else some (.nx ())))
def F_1k (x_ : GRights) : Option Bool :=
 jn (α := Fl Unit Bool) ((F_1 x_.Credentials 0 24).bind fun y26 => bif (!y26) then grp (true) fun b27 => grp ((b27 || decide (100 < (x_.Stores.length : Int)))) fun b28 => grp ((b28 || decide (100 < (x_.Mints.length : Int)))) fun b29 => bif b29 then some (.ex false) else some (.nx ()) else (F_1 x_.Resources 0 24).bind fun y30 => grp (((!y30) || decide (100 < (x_.Grants.length : Int)))) fun b31 => grp ((b31 || decide (100 < (x_.Stores.length : Int)))) fun b32 => grp ((b32 || decide (100 < (x_.Mints.length : Int)))) fun b33 => bif b33 then some (.ex false) else some (.nx ())) fun o => o.elim (fun j17 => (forL (F_1o x_) x_.Grants 0 ()).bind fun o => o.elim (fun x130 => (forL (F_1p x_) x_.Stores 0 ()).bind fun o => o.elim (fun x200 => (forL (F_1q x_) x_.Mints 0 ()).bind fun o => o.elim (fun x270 => some true) (fun r271 => some r271)) (fun r201 => some r201)) (fun r131 => some r131)) (fun r272 => some r272)
@[irreducible] def mg_1y : List MOp := [gF 19 20 (.fad 2 (.t 1)),
 gF 19 21 (.ld none (.t 20)),
 gF 19 22 (.len false (.t 21)),
 gF 19 23 (.bin false .gtr (.t 22) (cI 100)),
 mo (.pick (.t 19) (.c (.bool true)) (.t 23)) 24]
@[irreducible] def mg_1z : List MOp := [gF 25 26 (.fad 3 (.t 1)),
 gF 25 27 (.ld none (.t 26)),
 gF 25 28 (.len false (.t 27)),
 gF 25 29 (.bin false .gtr (.t 28) (cI 100)),
 mo (.pick (.t 25) (.c (.bool true)) (.t 29)) 30]
@[irreducible] def mg_20 : List MOp := [gF 31 32 (.fad 4 (.t 1)),
 gF 31 33 (.ld none (.t 32)),
 gF 31 34 (.len false (.t 33)),
 gF 31 35 (.bin false .gtr (.t 34) (cI 100)),
 mo (.pick (.t 31) (.c (.bool true)) (.t 35)) 36]
@[irreducible] def mc_1o : MC :=
 (sR [mo (.bin false .lss (.t 40) (.t 39)) 41]
 (.seq (.cond (.t 41)
 .skip
 (.exit 0))
 (.seq (.block 1
 (sR [mo (.iad 3 (.t 38) (.t 40)) 42,
 mo (.ld (some 3) (.t 42)) 43,
 mo (.alloc [(.int .i64 0),(.int .i64 0),(.int .i64 0)]) 4,
 ⟨.st 3 (.t 4) (.t 43), none, none⟩]
 (sR [oF 0 4 44,
 oL 44 45,
 oF 0 1 46,
 oL 46 47,
 mo (.bin true .sub (.t 47) (cI 1)) 48,
 mo (.call (.f 34) [(.t 45), (cI 0),(.t 48)] [] []) 49,
 mo (.not (.t 49)) 50,
 oV 50 51,
 gF 51 52 (.fad 1 (.t 4)),
 gF 51 53 (.ld none (.t 52)),
 gF 51 54 (.fad 1 (.t 1)),
 gF 51 55 (.ld none (.t 54)),
 gF 51 56 (.bin true .sub (.t 55) (cI 1)),
 gF 51 57 (.call (.f 34) [(.t 53), (cI 0),(.t 56)] [] []),
 gF 51 58 (.not (.t 57)),
 mo (.pick (.t 51) (.c (.bool true)) (.t 58)) 59,
 oV 59 60,
 gF 60 61 (.fad 2 (.t 4)),
 gF 60 62 (.ld none (.t 61)),
 gF 60 63 (.call (.f 34) [(.t 62), (cI 1), (cI 3)] [] []),
 gF 60 64 (.not (.t 63)),
 mo (.pick (.t 60) (.c (.bool true)) (.t 64)) 65]
 (.cond (.t 65)
 (sR [mo (.mv (.c (.bool false))) 2]
 .ret)
 .skip))))
 (.reg [mo (.bin true .add (.t 40) (cI 1)) 66,
 oV 66 40]))))
@[irreducible] def mc_1p : MC :=
 (sR [mo (.bin false .lss (.t 70) (.t 69)) 71]
 (.seq (.cond (.t 71)
 .skip
 (.exit 2))
 (.seq (.block 3
 (sR [mo (.iad 2 (.t 68) (.t 70)) 72,
 mo (.ld (some 2) (.t 72)) 73,
 mo (.alloc [(.int .i64 0),(.int .i64 0)]) 6,
 ⟨.st 2 (.t 6) (.t 73), none, none⟩]
 (sR [oF 0 6 74,
 oL 74 75,
 oF 1 1 76,
 oL 76 77,
 mo (.bin true .sub (.t 77) (cI 1)) 78,
 mo (.call (.f 34) [(.t 75), (cI 0),(.t 78)] [] []) 79,
 mo (.not (.t 79)) 80,
 oV 80 81,
 gF 81 82 (.fad 1 (.t 6)),
 gF 81 83 (.ld none (.t 82)),
 gF 81 84 (.fad 0 (.t 1)),
 gF 81 85 (.ld none (.t 84)),
 gF 81 86 (.bin true .sub (.t 85) (cI 1)),
 gF 81 87 (.call (.f 34) [(.t 83), (cI 0),(.t 86)] [] []),
 gF 81 88 (.not (.t 87)),
 mo (.pick (.t 81) (.c (.bool true)) (.t 88)) 89]
 (.cond (.t 89)
 (sR [mo (.mv (.c (.bool false))) 2]
 .ret)
 .skip))))
 (.reg [mo (.bin true .add (.t 70) (cI 1)) 90,
 oV 90 70]))))
@[irreducible] def mc_1q : MC :=
 (sR [mo (.bin false .lss (.t 94) (.t 93)) 95]
 (.seq (.cond (.t 95)
 .skip
 (.exit 4))
 (.seq (.block 5
 (sR [mo (.iad 2 (.t 92) (.t 94)) 96,
 mo (.ld (some 2) (.t 96)) 97,
 mo (.alloc [(.int .i64 0),(.int .i64 0)]) 8,
 ⟨.st 2 (.t 8) (.t 97), none, none⟩]
 (sR [oF 0 8 98,
 oL 98 99,
 oF 0 1 100,
 oL 100 101,
 mo (.bin true .sub (.t 101) (cI 1)) 102,
 mo (.call (.f 34) [(.t 99), (cI 0),(.t 102)] [] []) 103,
 mo (.not (.t 103)) 104,
 oV 104 105,
 gF 105 106 (.fad 1 (.t 8)),
 gF 105 107 (.ld none (.t 106)),
 gF 105 108 (.fad 0 (.t 1)),
 gF 105 109 (.ld none (.t 108)),
 gF 105 110 (.bin true .sub (.t 109) (cI 1)),
 gF 105 111 (.call (.f 34) [(.t 107), (cI 0),(.t 110)] [] []),
 gF 105 112 (.not (.t 111)),
 mo (.pick (.t 105) (.c (.bool true)) (.t 112)) 113]
 (.cond (.t 113)
 (sR [mo (.mv (.c (.bool false))) 2]
 .ret)
 .skip))))
 (.reg [mo (.bin true .add (.t 94) (cI 1)) 114,
 oV 114 94]))))
@[irreducible] def mc_2c : MC :=
 (.seq (sR [oF 2 1 37,
 oL 37 38,
 mo (.len false (.t 38)) 39,
 oC 0 40]
 (.block 0
 (.loop mc_1o)))
 (.seq (sR [oF 3 1 67,
 oL 67 68,
 mo (.len false (.t 68)) 69,
 oC 0 70]
 (.block 2
 (.loop mc_1p)))
 (.seq (sR [oF 4 1 91,
 oL 91 92,
 mo (.len false (.t 92)) 93,
 oC 0 94]
 (.block 4
 (.loop mc_1q)))
 (sR [mo (.mv (.c (.bool true))) 2]
 .ret))))
def mc_1k : MC :=
 (sR [mo (.box (.t 0)) 1,
 mo (.mv (.c (.bool false))) 2]
 (.cut (.seq (.regI [.op (oF 0 1 9),
 .op (oL 9 10),
 .op (mo (.call (.f 34) [(.t 10), (cI 0), (cI 24)] [] []) 11),
 .op (mo (.not (.t 11)) 12),
 .op (oV 12 13),
 .op (gF 13 14 (.fad 1 (.t 1))),
 .op (gF 13 15 (.ld none (.t 14))),
 .op (gF 13 16 (.call (.f 34) [(.t 15), (cI 0), (cI 24)] [] [])),
 .op (gF 13 17 (.not (.t 16))),
 .op (mo (.pick (.t 13) (.c (.bool true)) (.t 17)) 18),
 .op (oV 18 19),
 .grp mg_1y,
 .op (oV 24 25),
 .grp mg_1z,
 .op (oV 30 31),
 .grp mg_20])
 (.cond (.t 36)
 (sR [mo (.mv (.c (.bool false))) 2]
 .ret)
 .skip))
 mc_2c))
theorem Wq_1k {x_ : GRights} : Cn Try.prog 33 [GRights.v x_] [] (F_1k x_) (fun z => .bool z) (fun z => []) := fun Q Q' h hQ => by
 refine acallM mc_1k [] [] [.t 2] Try.func33 fun M => ?_
 unfold F_1k at h
 unfold mc_1k
 replace h := tY h
 refine tB ?_
 repeat' (first
 | (exact tZ)
 | ((first | refine oblg h ?_ | refine roomG h ?_ | refine fork h ?_ ?_ | refine forkS h ?_ ?_) <;> clear h <;> intro hc h)
 | (obtain ⟨y, hy, h⟩ := h; have hw := Wq_1.w hy; replace hw := tY hw; (first | refine M.sC hw ?_ | refine M.sD hw ?_); clear hw hy; refine tB ?_)
 | (refine M.gv1 (ms := mg_20) 36 [32,33,34,35] h ?_ ?_ <;> first
 | (clear h; intro K hK1; unfold mg_20; refine tB ?_)
 | (clear h; intro b h; replace h := tY h; refine tB ?_))
 | (refine M.gv1 (ms := mg_1z) 30 [26,27,28,29] h ?_ ?_ <;> first
 | (clear h; intro K hK2; unfold mg_1z; refine tB ?_)
 | (clear h; intro b h; replace h := tY h; refine tB ?_))
 | (refine M.gv1 (ms := mg_1y) 24 [20,21,22,23] h ?_ ?_ <;> first
 | (clear h; intro K hK3; unfold mg_1y; refine tB ?_)
 | (clear h; intro b h; replace h := tY h; refine tB ?_))
 | (refine M.gv1 (ms := mg_20) 36 [32,33,34,35] h ?_ ?_ <;> first
 | (clear h; intro K hK4; unfold mg_20; refine tB ?_)
 | (clear h; intro b h; replace h := tY h; refine tB ?_))
 | (refine M.gv1 (ms := mg_1z) 30 [26,27,28,29] h ?_ ?_ <;> first
 | (clear h; intro K hK5; unfold mg_1z; refine tB ?_)
 | (clear h; intro b h; replace h := tY h; refine tB ?_))
 | (refine M.gv1 (ms := mg_1y) 24 [20,21,22,23] h ?_ ?_ <;> first
 | (clear h; intro K hK6; unfold mg_1y; refine tB ?_)
 | (clear h; intro b h; replace h := tY h; refine tB ?_))
 | (refine M.for1 (b := mc_1o) 40 [1,38,39] [1] (fun x => []) (fun x => []) [] h ?_ ?_ ?_ <;> first
 | (clear h; intro k a x Qn K hK7 hkN7 ha7 h hf; have hl := fact_int (factsE_find (n := 39) hf.1 rfl); clear hf; have hkd := kD hkN7; have hkB7 := kB hkN7; have hkI7 := kI (k := k) (by omega); unfold F_1o at h; unfold mc_1o; replace h := tY h; refine tK ha7 hkd hkN7 hkB7 hkI7 ?_)
  |(clear h; intro x K h; replace h := And.left (And.intro h trivial); unfold mc_1o; replace h := tY h; refine tB ?_)
  |(clear h; (try refine tB ?_); exact tU0; done))
 | (refine M.for1 (b := mc_1p) 70 [1,68,69] [1] (fun x => []) (fun x => []) [] h ?_ ?_ ?_ <;> first
 | (clear h; intro k a x Qn K hK8 hkN8 ha8 h hf; have hl := fact_int (factsE_find (n := 69) hf.1 rfl); clear hf; have hkd := kD hkN8; have hkB8 := kB hkN8; have hkI8 := kI (k := k) (by omega); unfold F_1p at h; unfold mc_1p; replace h := tY h; refine tK ha8 hkd hkN8 hkB8 hkI8 ?_)
  |(clear h; intro x K h; replace h := And.left (And.intro h trivial); unfold mc_1p; replace h := tY h; refine tB ?_)
  |(clear h; (try refine tB ?_); exact tU0; done))
 | (refine M.for1 (b := mc_1q) 94 [1,92,93] [1] (fun x => []) (fun x => []) [] h ?_ ?_ ?_ <;> first
 | (clear h; intro k a x Qn K hK9 hkN9 ha9 h hf; have hl := fact_int (factsE_find (n := 93) hf.1 rfl); clear hf; have hkd := kD hkN9; have hkB9 := kB hkN9; have hkI9 := kI (k := k) (by omega); unfold F_1q at h; unfold mc_1q; replace h := tY h; refine tK ha9 hkd hkN9 hkB9 hkI9 ?_)
  |(clear h; intro x K h; replace h := And.left (And.intro h trivial); unfold mc_1q; replace h := tY h; refine tB ?_)
  |(clear h; (try refine tB ?_); exact tU0; done))
 | (refine M.jnE (b := mc_2c) [1] [1] (fun y => []) (fun y => []) [] h ?_ ?_ <;> first
 | (clear h; intro Qn K hK10 h; replace h := tY h; refine tB ?_)
  |(clear h; intro y h; unfold mc_2c; replace h := tY h; refine tB ?_))
 | (first | simp only [ha7] | simp only [ha8] | simp only [ha9])
 | ((first | refine hK1 _ ?_ | refine hK2 _ ?_ | refine hK3 _ ?_ | refine hK4 _ ?_ | refine hK5 _ ?_ | refine hK6 _ ?_); exact tU; done)
 | ((first | refine hK7 _ ?_ | refine hK8 _ ?_ | refine hK9 _ ?_ | refine hK10 _ ?_); (try refine tB ?_); refine ⟨_, h, ?_⟩; exact tU0; done)
 | (refine bfork (fun hc => ?_) (fun hc => ?_))
 | (refine tE ?_; (first | rw [M.lok_compU] | rw [M.lokD_compU]); refine tB ?_)
 | (refine tA ?_)
 | fail)
def F_1r (x_ : GRights) (resource_ : Int) (right_ : Int) (chain_ : List GLink) (k554 : Int) (a555 : GLink) (x553 : Int) : Option (Fl Int Bool) :=
 chk (in64 ((chain_.length : Int) - 1)) (bif decide (a555.Kind = 2) then grp ((decide (k554 = ((chain_.length : Int) - 1)) || (!decide (a555.Grant = (-1))))) fun b673 => grp ((b673 || (!decide (a555.Store = (-1))))) fun b674 => bif b674 then some (.ex false) else chk (in64 ((x_.Mints.length : Int) - 1)) ((F_1 a555.Mint 0 ((x_.Mints.length : Int) - 1)).bind fun y675 => bif (!y675) then some (.ex false) else chk (inb a555.Mint x_.Mints.length) (bif (!decide ((x_.Mints.getD (a555.Mint).toNat default).From = x553)) then some (.ex false) else chk (inb a555.Mint x_.Mints.length) (some (.nx ((x_.Mints.getD (a555.Mint).toNat default).To))))) else bif decide (a555.Kind = 1) then bif decide (k554 = ((chain_.length : Int) - 1)) then some (.ex false) else bif (!decide (a555.Mint = (-1))) then some (.ex false) else chk (in64 ((x_.Grants.length : Int) - 1)) ((F_1 a555.Grant 0 ((x_.Grants.length : Int) - 1)).bind fun y682 => bif (!y682) then some (.ex false) else chk (in64 ((x_.Stores.length : Int) - 1)) ((F_1 a555.Store 0 ((x_.Stores.length : Int) - 1)).bind fun y683 => bif (!y683) then some (.ex false) else chk (inb a555.Grant x_.Grants.length) (bif (!decide ((x_.Grants.getD (a555.Grant).toNat default).Credential = x553)) then some (.ex false) else chk (inb a555.Grant x_.Grants.length) (chk (inb a555.Store x_.Stores.length) (bif (!decide ((x_.Grants.getD (a555.Grant).toNat default).Resource = (x_.Stores.getD (a555.Store).toNat default).Resource)) then some (.ex false) else chk (inb a555.Store x_.Stores.length) (some (.nx ((x_.Stores.getD (a555.Store).toNat default).Credential)))))))) else bif decide (a555.Kind = 3) then grp (((!(decide (k554 = ((chain_.length : Int) - 1)))) || (!decide (a555.Mint = (-1))))) fun b693 => grp ((b693 || (!decide (a555.Store = (-1))))) fun b694 => bif b694 then some (.ex false) else chk (in64 ((x_.Grants.length : Int) - 1)) ((F_1 a555.Grant 0 ((x_.Grants.length : Int) - 1)).bind fun y695 => bif (!y695) then some (.ex false) else chk (inb a555.Grant x_.Grants.length) (grp ((decide ((x_.Grants.getD (a555.Grant).toNat default).Credential = x553) && decide ((x_.Grants.getD (a555.Grant).toNat default).Resource = resource_))) fun b698 => grp ((b698 && decide (right_ ≤ (x_.Grants.getD (a555.Grant).toNat default).Right))) fun b699 => some (.ex b699))) else some (.ex false))
def F_t (x_ : GRights) (c_ : Int) (resource_ : Int) (right_ : Int) (chain_ : List GLink) : Option Bool :=
 jn (α := Fl Unit Bool) ((F_1k x_).bind fun y26 => bif (!y26) then grp (true) fun b27 => bif b27 then some (.ex false) else some (.nx ()) else chk (in64 (x_.Credentials - 1)) ((F_1 c_ 0 (x_.Credentials - 1)).bind fun y28 => bif (!y28) then grp (true) fun b29 => bif b29 then some (.ex false) else some (.nx ()) else chk (in64 (x_.Resources - 1)) ((F_1 resource_ 0 (x_.Resources - 1)).bind fun y30 => bif (!y30) then grp (true) fun b31 => bif b31 then some (.ex false) else some (.nx ()) else (F_1 right_ 1 3).bind fun y32 => grp (((!y32) || decide ((chain_.length : Int) = 0))) fun b33 => bif b33 then some (.ex false) else some (.nx ())))) fun o => o.elim (fun j17 => (forL (F_1r x_ resource_ right_ chain_) chain_ 0 c_).bind fun o => o.elim (fun x700 => some false) (fun r701 => some r701)) (fun r702 => some r702)
@[irreducible] def mg_14 : List MOp := [gF 39 40 (.mv (.t 4)),
 gF 39 41 (.len false (.t 40)),
 gF 39 42 (.bin false .eql (.t 41) (cI 0)),
 mo (.pick (.t 39) (.c (.bool true)) (.t 42)) 43]
@[irreducible] def mg_2d : List MOp := [gF 61 62 (.fad 1 (.t 12)),
 gF 61 63 (.ld none (.t 62)),
 gF 61 64 (.bin false .neq (.t 63) (cI (-1))),
 mo (.pick (.t 61) (.c (.bool true)) (.t 64)) 65]
@[irreducible] def mg_2e : List MOp := [gF 66 67 (.fad 2 (.t 12)),
 gF 66 68 (.ld none (.t 67)),
 gF 66 69 (.bin false .neq (.t 68) (cI (-1))),
 mo (.pick (.t 66) (.c (.bool true)) (.t 69)) 70]
@[irreducible] def mg_2f : List MOp := [gF 166 167 (.fad 3 (.t 12)),
 gF 166 168 (.ld none (.t 167)),
 gF 166 169 (.bin false .neq (.t 168) (cI (-1))),
 mo (.pick (.t 166) (.c (.bool true)) (.t 169)) 170]
@[irreducible] def mg_2g : List MOp := [gF 171 172 (.fad 2 (.t 12)),
 gF 171 173 (.ld none (.t 172)),
 gF 171 174 (.bin false .neq (.t 173) (cI (-1))),
 mo (.pick (.t 171) (.c (.bool true)) (.t 174)) 175]
@[irreducible] def mg_2h : List MOp := [gT 196 197 (.fad 1 (.t 14)),
 gT 196 198 (.ld none (.t 197)),
 gT 196 199 (.mv (.t 2)),
 gT 196 200 (.bin false .eql (.t 198) (.t 199)),
 mo (.pick (.t 196) (.t 200) (.c (.bool false))) 201]
@[irreducible] def mg_2i : List MOp := [gT 202 203 (.fad 2 (.t 14)),
 gT 202 204 (.ld none (.t 203)),
 gT 202 205 (.mv (.t 3)),
 gT 202 206 (.bin false .geq (.t 204) (.t 205)),
 mo (.pick (.t 202) (.t 206) (.c (.bool false))) 207]
@[irreducible] def mc_1r : MC :=
 (sR [mo (.bin false .lss (.t 46) (.t 45)) 47]
 (.seq (.cond (.t 47)
 .skip
 (.exit 0))
 (.seq (.block 1
 (sR [oV 46 48,
 mo (.iad 4 (.t 44) (.t 46)) 49,
 mo (.ld (some 4) (.t 49)) 50,
 mo (.alloc [(.int .i64 0),(.int .i64 0),(.int .i64 0),(.int .i64 0)]) 12,
 oV 48 11,
 ⟨.st 4 (.t 12) (.t 50), none, none⟩]
 (sR [oV 11 51,
 oV 4 52,
 mo (.len false (.t 52)) 53,
 mo (.bin true .sub (.t 53) (cI 1)) 54,
 mo (.bin false .eql (.t 51) (.t 54)) 55,
 oV 55 13]
 (sR [oF 0 12 56,
 oL 56 57]
 (.block 2
 (sR [mo (.bin false .eql (.t 57) (cI 2)) 59,
 oV 59 58]
 (.cond (.t 58)
 (.seq (.seq (.note (.gc [1,2,3,4,5,12,13,44,45,46,62,63,64,67,68,69,72,73,74,75,76,77,78,79,82,83,84,85,86,87,88,89,90,103,104,105,108,109,110,111,112,113,114,115,118,119,120,121,122,123,124,125,128,129,130,131,132,133,134,135,136,139,140,141,142,143,144,145,146,147,148,149,150,151,152,153,167,168,169,172,173,174,177,178,179,180,181,182,183,184,197,198,199,200,203,204,205,206]) (.regI [.op (oV 13 60),
 .op (oV 60 61),
 .grp mg_2d,
 .op (oV 65 66),
 .grp mg_2e,
 .op (oV 70 71),
 .op (gF 71 72 (.fad 3 (.t 12))),
 .op (gF 71 73 (.ld none (.t 72))),
 .op (gF 71 74 (.fad 4 (.t 5))),
 .op (gF 71 75 (.ld none (.t 74))),
 .op (gF 71 76 (.len false (.t 75))),
 .op (gF 71 77 (.bin true .sub (.t 76) (cI 1))),
 .op (gF 71 78 (.call (.f 34) [(.t 73), (cI 0),(.t 77)] [] [])),
 .op (gF 71 79 (.not (.t 78))),
 .op (mo (.pick (.t 71) (.c (.bool true)) (.t 79)) 80),
 .op (oV 80 81),
 .op (gF 81 82 (.fad 4 (.t 5))),
 .op (gF 81 83 (.ld none (.t 82))),
 .op (gF 81 84 (.fad 3 (.t 12))),
 .op (gF 81 85 (.ld none (.t 84))),
 .op (gF 81 86 (.iad 2 (.t 83) (.t 85))),
 .op (gF 81 87 (.fad 0 (.t 86))),
 .op (gF 81 88 (.ld none (.t 87))),
 .op (gF 81 89 (.mv (.t 1))),
 .op (gF 81 90 (.bin false .neq (.t 88) (.t 89))),
 .op (mo (.pick (.t 81) (.c (.bool true)) (.t 90)) 91)]))
 (.cond (.t 91)
 (sR [mo (.mv (.c (.bool false))) 10]
 .ret)
 .skip))
 (.note (.gc [2,3,4,5,12,44,45,46,62,63,64,67,68,69,72,73,74,75,76,77,78,79,82,83,84,85,86,87,88,89,90,103,104,105,108,109,110,111,112,113,114,115,118,119,120,121,122,123,124,125,128,129,130,131,132,133,134,135,136,139,140,141,142,143,144,145,146,147,148,149,150,151,152,153,167,168,169,172,173,174,177,178,179,180,181,182,183,184,197,198,199,200,203,204,205,206]) (.reg [oF 4 5 92,
 oL 92 93,
 oF 3 12 94,
 oL 94 95,
 mo (.iad 2 (.t 93) (.t 95)) 96,
 oF 1 96 97,
 oL 97 98,
 oV 98 1])))
 (sR [mo (.bin false .eql (.t 57) (cI 1)) 100,
 oV 100 99]
 (.cond (.t 99)
 (.seq (.seq (.note (.gc [1,2,3,4,5,12,13,44,45,46,62,63,64,67,68,69,72,73,74,75,76,77,78,79,82,83,84,85,86,87,88,89,90,103,104,105,108,109,110,111,112,113,114,115,118,119,120,121,122,123,124,125,128,129,130,131,132,133,134,135,136,139,140,141,142,143,144,145,146,147,148,149,150,151,152,153,167,168,169,172,173,174,177,178,179,180,181,182,183,184,197,198,199,200,203,204,205,206]) (.regD [oV 13 101,
 oV 101 102,
 gF 102 103 (.fad 3 (.t 12)),
 gF 102 104 (.ld none (.t 103)),
 gF 102 105 (.bin false .neq (.t 104) (cI (-1))),
 mo (.pick (.t 102) (.c (.bool true)) (.t 105)) 106,
 oV 106 107,
 gF 107 108 (.fad 1 (.t 12)),
 gF 107 109 (.ld none (.t 108)),
 gF 107 110 (.fad 2 (.t 5)),
 gF 107 111 (.ld none (.t 110)),
 gF 107 112 (.len false (.t 111)),
 gF 107 113 (.bin true .sub (.t 112) (cI 1)),
 gF 107 114 (.call (.f 34) [(.t 109), (cI 0),(.t 113)] [] []),
 gF 107 115 (.not (.t 114)),
 mo (.pick (.t 107) (.c (.bool true)) (.t 115)) 116,
 oV 116 117,
 gF 117 118 (.fad 2 (.t 12)),
 gF 117 119 (.ld none (.t 118)),
 gF 117 120 (.fad 3 (.t 5)),
 gF 117 121 (.ld none (.t 120)),
 gF 117 122 (.len false (.t 121)),
 gF 117 123 (.bin true .sub (.t 122) (cI 1)),
 gF 117 124 (.call (.f 34) [(.t 119), (cI 0),(.t 123)] [] []),
 gF 117 125 (.not (.t 124)),
 mo (.pick (.t 117) (.c (.bool true)) (.t 125)) 126,
 oV 126 127,
 gF 127 128 (.fad 2 (.t 5)),
 gF 127 129 (.ld none (.t 128)),
 gF 127 130 (.fad 1 (.t 12)),
 gF 127 131 (.ld none (.t 130)),
 gF 127 132 (.iad 3 (.t 129) (.t 131)),
 gF 127 133 (.fad 0 (.t 132)),
 gF 127 134 (.ld none (.t 133)),
 gF 127 135 (.mv (.t 1)),
 gF 127 136 (.bin false .neq (.t 134) (.t 135)),
 mo (.pick (.t 127) (.c (.bool true)) (.t 136)) 137,
 oV 137 138,
 gF 138 139 (.fad 2 (.t 5)),
 gF 138 140 (.ld none (.t 139)),
 gF 138 141 (.fad 1 (.t 12)),
 gF 138 142 (.ld none (.t 141)),
 gF 138 143 (.iad 3 (.t 140) (.t 142)),
 gF 138 144 (.fad 1 (.t 143)),
 gF 138 145 (.ld none (.t 144)),
 gF 138 146 (.fad 3 (.t 5)),
 gF 138 147 (.ld none (.t 146)),
 gF 138 148 (.fad 2 (.t 12)),
 gF 138 149 (.ld none (.t 148)),
 gF 138 150 (.iad 2 (.t 147) (.t 149)),
 gF 138 151 (.fad 0 (.t 150)),
 gF 138 152 (.ld none (.t 151)),
 gF 138 153 (.bin false .neq (.t 145) (.t 152)),
 mo (.pick (.t 138) (.c (.bool true)) (.t 153)) 154]
 [[],[0],[1],[2,1],[3,1],[1,4],[5,1],[6],[7,6],[6],[9,6],[10,6],[11,6],[8,12,6,6],[13,6],[6,14],[15,13],[16],[17,16],[16],[19,16],[20,16],[21,16],[18,22,16,16],[23,16],[16,24],[25,23],[26],[27,26],[26],[29,26],[28,30,26],[31,26],[32,26],[26],[33,34,26],[26,35],[36,26],[37],[38,37],[37],[40,37],[39,41,37],[42,37],[43,37],[37],[45,37],[37],[47,37],[46,48,37],[49,37],[50,37],[44,51,37],[37,52]]
 [[],[0],[0,1],[0,1,2],[0,1,2,3],[0,1,2,3,4],[0,1,2,3,4,5],[0,1,2,3,4,5,6],[0,1,2,3,4,5,6,7],[0,1,2,3,4,5,6],[0,1,2,3,4,5,6,9],[0,1,2,3,4,5,6,9,10],[0,1,2,3,4,5,6,9,10,11],[0,1,2,3,4,5,6,7,8,9,10,11,12],[0,1,2,3,4,5,6,7,8,9,10,11,12,13],[0,1,2,3,4,5,6,7,8,9,10,11,12,13,14],[0,1,2,3,4,5,6,7,8,9,10,11,12,13,14,15],[0,1,2,3,4,5,6,7,8,9,10,11,12,13,14,15,16],[0,1,2,3,4,5,6,7,8,9,10,11,12,13,14,15,16,17],[0,1,2,3,4,5,6,7,8,9,10,11,12,13,14,15,16],[0,1,2,3,4,5,6,7,8,9,10,11,12,13,14,15,16,19],[0,1,2,3,4,5,6,7,8,9,10,11,12,13,14,15,16,19,20],[0,1,2,3,4,5,6,7,8,9,10,11,12,13,14,15,16,19,20,21],[0,1,2,3,4,5,6,7,8,9,10,11,12,13,14,15,16,17,18,19,20,21,22],[0,1,2,3,4,5,6,7,8,9,10,11,12,13,14,15,16,17,18,19,20,21,22,23],[0,1,2,3,4,5,6,7,8,9,10,11,12,13,14,15,16,17,18,19,20,21,22,23,24],[0,1,2,3,4,5,6,7,8,9,10,11,12,13,14,15,16,17,18,19,20,21,22,23,24,25],[0,1,2,3,4,5,6,7,8,9,10,11,12,13,14,15,16,17,18,19,20,21,22,23,24,25,26],[0,1,2,3,4,5,6,7,8,9,10,11,12,13,14,15,16,17,18,19,20,21,22,23,24,25,26,27],[0,1,2,3,4,5,6,7,8,9,10,11,12,13,14,15,16,17,18,19,20,21,22,23,24,25,26],[0,1,2,3,4,5,6,7,8,9,10,11,12,13,14,15,16,17,18,19,20,21,22,23,24,25,26,29],[0,1,2,3,4,5,6,7,8,9,10,11,12,13,14,15,16,17,18,19,20,21,22,23,24,25,26,27,28,29,30],[0,1,2,3,4,5,6,7,8,9,10,11,12,13,14,15,16,17,18,19,20,21,22,23,24,25,26,27,28,29,30,31],[0,1,2,3,4,5,6,7,8,9,10,11,12,13,14,15,16,17,18,19,20,21,22,23,24,25,26,27,28,29,30,31,32],[0,1,2,3,4,5,6,7,8,9,10,11,12,13,14,15,16,17,18,19,20,21,22,23,24,25,26],[0,1,2,3,4,5,6,7,8,9,10,11,12,13,14,15,16,17,18,19,20,21,22,23,24,25,26,27,28,29,30,31,32,33,34],[0,1,2,3,4,5,6,7,8,9,10,11,12,13,14,15,16,17,18,19,20,21,22,23,24,25,26,27,28,29,30,31,32,33,34,35],[0,1,2,3,4,5,6,7,8,9,10,11,12,13,14,15,16,17,18,19,20,21,22,23,24,25,26,27,28,29,30,31,32,33,34,35,36],[0,1,2,3,4,5,6,7,8,9,10,11,12,13,14,15,16,17,18,19,20,21,22,23,24,25,26,27,28,29,30,31,32,33,34,35,36,37],[0,1,2,3,4,5,6,7,8,9,10,11,12,13,14,15,16,17,18,19,20,21,22,23,24,25,26,27,28,29,30,31,32,33,34,35,36,37,38],[0,1,2,3,4,5,6,7,8,9,10,11,12,13,14,15,16,17,18,19,20,21,22,23,24,25,26,27,28,29,30,31,32,33,34,35,36,37],[0,1,2,3,4,5,6,7,8,9,10,11,12,13,14,15,16,17,18,19,20,21,22,23,24,25,26,27,28,29,30,31,32,33,34,35,36,37,40],[0,1,2,3,4,5,6,7,8,9,10,11,12,13,14,15,16,17,18,19,20,21,22,23,24,25,26,27,28,29,30,31,32,33,34,35,36,37,38,39,40,41],[0,1,2,3,4,5,6,7,8,9,10,11,12,13,14,15,16,17,18,19,20,21,22,23,24,25,26,27,28,29,30,31,32,33,34,35,36,37,38,39,40,41,42],[0,1,2,3,4,5,6,7,8,9,10,11,12,13,14,15,16,17,18,19,20,21,22,23,24,25,26,27,28,29,30,31,32,33,34,35,36,37,38,39,40,41,42,43],[0,1,2,3,4,5,6,7,8,9,10,11,12,13,14,15,16,17,18,19,20,21,22,23,24,25,26,27,28,29,30,31,32,33,34,35,36,37],[0,1,2,3,4,5,6,7,8,9,10,11,12,13,14,15,16,17,18,19,20,21,22,23,24,25,26,27,28,29,30,31,32,33,34,35,36,37,45],[0,1,2,3,4,5,6,7,8,9,10,11,12,13,14,15,16,17,18,19,20,21,22,23,24,25,26,27,28,29,30,31,32,33,34,35,36,37],[0,1,2,3,4,5,6,7,8,9,10,11,12,13,14,15,16,17,18,19,20,21,22,23,24,25,26,27,28,29,30,31,32,33,34,35,36,37,47],[0,1,2,3,4,5,6,7,8,9,10,11,12,13,14,15,16,17,18,19,20,21,22,23,24,25,26,27,28,29,30,31,32,33,34,35,36,37,45,46,47,48],[0,1,2,3,4,5,6,7,8,9,10,11,12,13,14,15,16,17,18,19,20,21,22,23,24,25,26,27,28,29,30,31,32,33,34,35,36,37,45,46,47,48,49],[0,1,2,3,4,5,6,7,8,9,10,11,12,13,14,15,16,17,18,19,20,21,22,23,24,25,26,27,28,29,30,31,32,33,34,35,36,37,45,46,47,48,49,50],[0,1,2,3,4,5,6,7,8,9,10,11,12,13,14,15,16,17,18,19,20,21,22,23,24,25,26,27,28,29,30,31,32,33,34,35,36,37,38,39,40,41,42,43,44,45,46,47,48,49,50,51],[0,1,2,3,4,5,6,7,8,9,10,11,12,13,14,15,16,17,18,19,20,21,22,23,24,25,26,27,28,29,30,31,32,33,34,35,36,37,38,39,40,41,42,43,44,45,46,47,48,49,50,51,52]]))
 (.cond (.t 154)
 (sR [mo (.mv (.c (.bool false))) 10]
 .ret)
 .skip))
 (.note (.gc [2,3,4,5,12,44,45,46,62,63,64,67,68,69,72,73,74,75,76,77,78,79,82,83,84,85,86,87,88,89,90,103,104,105,108,109,110,111,112,113,114,115,118,119,120,121,122,123,124,125,128,129,130,131,132,133,134,135,136,139,140,141,142,143,144,145,146,147,148,149,150,151,152,153,167,168,169,172,173,174,177,178,179,180,181,182,183,184,197,198,199,200,203,204,205,206]) (.reg [oF 3 5 155,
 oL 155 156,
 oF 2 12 157,
 oL 157 158,
 mo (.iad 2 (.t 156) (.t 158)) 159,
 oF 1 159 160,
 oL 160 161,
 oV 161 1])))
 (sR [mo (.bin false .eql (.t 57) (cI 3)) 163,
 oV 163 162]
 (.cond (.t 162)
 (.seq (.seq (.note (.gc [1,2,3,5,12,13,167,168,169,172,173,174,177,178,179,180,181,182,183,184,197,198,199,200,203,204,205,206]) (.regI [.op (oV 13 164),
 .op (mo (.not (.t 164)) 165),
 .op (oV 165 166),
 .grp mg_2f,
 .op (oV 170 171),
 .grp mg_2g,
 .op (oV 175 176),
 .op (gF 176 177 (.fad 1 (.t 12))),
 .op (gF 176 178 (.ld none (.t 177))),
 .op (gF 176 179 (.fad 2 (.t 5))),
 .op (gF 176 180 (.ld none (.t 179))),
 .op (gF 176 181 (.len false (.t 180))),
 .op (gF 176 182 (.bin true .sub (.t 181) (cI 1))),
 .op (gF 176 183 (.call (.f 34) [(.t 178), (cI 0),(.t 182)] [] [])),
 .op (gF 176 184 (.not (.t 183))),
 .op (mo (.pick (.t 176) (.c (.bool true)) (.t 184)) 185)]))
 (.cond (.t 185)
 (sR [mo (.mv (.c (.bool false))) 10]
 .ret)
 .skip))
 (.seq (.note (.gc [1,2,3,5,12,197,198,199,200,203,204,205,206]) (.reg [oF 2 5 186,
 oL 186 187,
 oF 1 12 188,
 oL 188 189,
 mo (.iad 3 (.t 187) (.t 189)) 190,
 mo (.ld (some 3) (.t 190)) 191,
 mo (.alloc [(.int .i64 0),(.int .i64 0),(.int .i64 0)]) 14,
 ⟨.st 3 (.t 14) (.t 191), none, none⟩]))
 (.seq (.note (.gc [1,2,3,14,197,198,199,200,203,204,205,206]) (.regI [.op (oF 0 14 192),
 .op (oL 192 193),
 .op (oV 1 194),
 .op (mo (.bin false .eql (.t 193) (.t 194)) 195),
 .op (oV 195 196),
 .grp mg_2h,
 .op (oV 201 202),
 .grp mg_2i,
 .op (oV 207 10)]))
 .ret)))
 (sR [mo (.mv (.c (.bool false))) 10]
 .ret))))))))))))
 (.reg [mo (.bin true .add (.t 46) (cI 1)) 208,
 oV 208 46]))))
@[irreducible] def mc_2j : MC :=
 (.seq (sR [oV 4 44,
 mo (.len false (.t 44)) 45,
 oC 0 46]
 (.block 0
 (.loop mc_1r)))
 (sR [mo (.mv (.c (.bool false))) 10]
 .ret))
def mc_t : MC :=
 (sR [mo (.box (.t 0)) 5,
 mo (.mv (.c (.bool false))) 10]
 (.cut (.seq (.regI [.op (mo (.ld (some 5) (.t 5)) 15),
 .op (mo (.call (.f 33) [(.t 15)] [] []) 16),
 .op (mo (.not (.t 16)) 17),
 .op (oV 17 18),
 .op (gF 18 19 (.mv (.t 1))),
 .op (gF 18 20 (.fad 0 (.t 5))),
 .op (gF 18 21 (.ld none (.t 20))),
 .op (gF 18 22 (.bin true .sub (.t 21) (cI 1))),
 .op (gF 18 23 (.call (.f 34) [(.t 19), (cI 0),(.t 22)] [] [])),
 .op (gF 18 24 (.not (.t 23))),
 .op (mo (.pick (.t 18) (.c (.bool true)) (.t 24)) 25),
 .op (oV 25 26),
 .op (gF 26 27 (.mv (.t 2))),
 .op (gF 26 28 (.fad 1 (.t 5))),
 .op (gF 26 29 (.ld none (.t 28))),
 .op (gF 26 30 (.bin true .sub (.t 29) (cI 1))),
 .op (gF 26 31 (.call (.f 34) [(.t 27), (cI 0),(.t 30)] [] [])),
 .op (gF 26 32 (.not (.t 31))),
 .op (mo (.pick (.t 26) (.c (.bool true)) (.t 32)) 33),
 .op (oV 33 34),
 .op (gF 34 35 (.mv (.t 3))),
 .op (gF 34 36 (.call (.f 34) [(.t 35), (cI 1), (cI 3)] [] [])),
 .op (gF 34 37 (.not (.t 36))),
 .op (mo (.pick (.t 34) (.c (.bool true)) (.t 37)) 38),
 .op (oV 38 39),
 .grp mg_14])
 (.cond (.t 43)
 (sR [mo (.mv (.c (.bool false))) 10]
 .ret)
 .skip))
 mc_2j))
theorem Wq_t {x_ : GRights} {c_ resource_ right_ : Int} {chain_ : List GLink} : Cn Try.prog 20 [GRights.v x_, .int .i64 c_, .int .i64 resource_, .int .i64 right_, .sl (chain_.map GLink.v)] [] (F_t x_ c_ resource_ right_ chain_) (fun z => .bool z) (fun z => []) := fun Q Q' h hQ => by
 refine acallM mc_t [] [] [.t 10] Try.func20 fun M => ?_
 unfold F_t at h
 unfold mc_t
 replace h := tY h
 refine tB ?_
 repeat' (first
 | (exact tZ)
 | ((first | refine oblg h ?_ | refine roomG h ?_ | refine fork h ?_ ?_ | refine forkS h ?_ ?_) <;> clear h <;> intro hc h)
 | (obtain ⟨y, hy, h⟩ := h; (first | with_reducible first | have hw := Wq_1k.w hy | have hw := Wq_1.w hy); replace hw := tY hw; (first | refine M.sC hw ?_ | refine M.sD hw ?_); clear hw hy; refine tB ?_)
 | (refine M.gv1 (ms := mg_14) 43 [40,41,42] h ?_ ?_ <;> first
 | (clear h; intro K hK1; unfold mg_14; refine tB ?_)
 | (clear h; intro b h; replace h := tY h; refine tB ?_))
 | (refine M.gv1 (ms := mg_14) 43 [40,41,42] h ?_ ?_ <;> first
 | (clear h; intro K hK2; unfold mg_14; refine tB ?_)
 | (clear h; intro b h; replace h := tY h; refine tB ?_))
 | (refine M.gv1 (ms := mg_14) 43 [40,41,42] h ?_ ?_ <;> first
 | (clear h; intro K hK3; unfold mg_14; refine tB ?_)
 | (clear h; intro b h; replace h := tY h; refine tB ?_))
 | (refine M.gv1 (ms := mg_14) 43 [40,41,42] h ?_ ?_ <;> first
 | (clear h; intro K hK4; unfold mg_14; refine tB ?_)
 | (clear h; intro b h; replace h := tY h; refine tB ?_))
 | (refine M.gv1 (ms := mg_2e) 70 [67,68,69] h ?_ ?_ <;> first
 | (clear h; intro K hK5; unfold mg_2e; refine tB ?_)
 | (clear h; intro b h; replace h := tY h; refine tB ?_))
 | (refine M.gv1 (ms := mg_2d) 65 [62,63,64] h ?_ ?_ <;> first
 | (clear h; intro K hK6; unfold mg_2d; refine tB ?_)
 | (clear h; intro b h; replace h := tY h; refine tB ?_))
 | (refine M.gv1 (ms := mg_2i) 207 [203,204,205,206] h ?_ ?_ <;> first
 | (clear h; intro K hK7; unfold mg_2i; refine tB ?_)
 | (clear h; intro b h; replace h := tY h; refine tB ?_))
 | (refine M.gv1 (ms := mg_2h) 201 [197,198,199,200] h ?_ ?_ <;> first
 | (clear h; intro K hK8; unfold mg_2h; refine tB ?_)
 | (clear h; intro b h; replace h := tY h; refine tB ?_))
 | (refine M.gv1 (ms := mg_2g) 175 [172,173,174] h ?_ ?_ <;> first
 | (clear h; intro K hK9; unfold mg_2g; refine tB ?_)
 | (clear h; intro b h; replace h := tY h; refine tB ?_))
 | (refine M.gv1 (ms := mg_2f) 170 [167,168,169] h ?_ ?_ <;> first
 | (clear h; intro K hK10; unfold mg_2f; refine tB ?_)
 | (clear h; intro b h; replace h := tY h; refine tB ?_))
 | (refine M.for1 (b := mc_1r) 46 [2,3,4,5,44,45] [5] (fun x => [(1, .int .i64 x)]) (fun x => []) [] h ?_ ?_ ?_ <;> first
 | (clear h; intro k a x Qn K hK11 hkN11 ha11 h hf; have hl := fact_int (factsE_find (n := 45) hf.1 rfl); clear hf; have hkd := kD hkN11; have hkB11 := kB hkN11; have hkI11 := kI (k := k) (by omega); unfold F_1r at h; unfold mc_1r; replace h := tY h; refine tK ha11 hkd hkN11 hkB11 hkI11 ?_)
  |(clear h; intro x K h; replace h := And.left (And.intro h trivial); unfold mc_1r; replace h := tY h; refine tB ?_)
  |(clear h; (try refine tB ?_); exact tU0; done))
 | (refine M.jnE (b := mc_2j) [1,2,3,4,5] [5] (fun y => []) (fun y => []) [] h ?_ ?_ <;> first
 | (clear h; intro Qn K hK12 h; replace h := tY h; refine tB ?_)
  |(clear h; intro y h; unfold mc_2j; replace h := tY h; refine tB ?_))
 | (simp only [ha11])
 | ((first | refine hK1 _ ?_ | refine hK2 _ ?_ | refine hK3 _ ?_ | refine hK4 _ ?_ | refine hK5 _ ?_ | refine hK6 _ ?_ | refine hK7 _ ?_ | refine hK8 _ ?_ | refine hK9 _ ?_ | refine hK10 _ ?_); exact tU; done)
 | ((first | refine hK11 _ ?_ | refine hK12 _ ?_); (try refine tB ?_); refine ⟨_, h, ?_⟩; exact tU0; done)
 | (refine bfork (fun hc => ?_) (fun hc => ?_))
 | (refine tE ?_; (first | rw [M.lok_compU] | rw [M.lokD_compU]); refine tB ?_)
 | (refine tA ?_)
 | fail)
noncomputable def F_j : Option Bool :=
 (F_i (GRights.mk 2 2 [(GGrant.mk 0 0 1), (GGrant.mk 1 1 3)] [(GStore.mk 0 1)] []) 0 1).bind fun y2 => (F_5 (GRights.mk 2 2 [(GGrant.mk 0 0 1), (GGrant.mk 1 1 3)] [(GStore.mk 0 1)] []) 0).bind fun y9 => (F_g y9 [1,3]).bind fun y10 => grp ((y10 && y2.2)) fun b11 => jn (α := Bool) (bif b11 then (F_t (GRights.mk 2 2 [(GGrant.mk 0 0 1), (GGrant.mk 1 1 3)] [(GStore.mk 0 1)] []) 0 1 3 y2.1).bind fun y13 => some y13 else some false) fun j14 => grp ((j14 && decide ((y2.1.length : Int) = 2))) fun b15 => some b15
@[irreducible] def mg_2k : List MOp := [gT 19 20 (.mv (.t 3)),
 mo (.pick (.t 19) (.t 20) (.c (.bool false))) 21]
@[irreducible] def mg_2l : List MOp := [gT 22 23 (.ld (some 5) (.t 1)),
 gT 22 24 (.mv (.t 2)),
 gT 22 25 (.call (.f 20) [(.t 23), (cI 0), (cI 1), (cI 3),(.t 24)] [] []),
 mo (.pick (.t 22) (.t 25) (.c (.bool false))) 26]
@[irreducible] def mg_2m : List MOp := [gT 27 28 (.mv (.t 2)),
 gT 27 29 (.len false (.t 28)),
 gT 27 30 (.bin false .eql (.t 29) (cI 2)),
 mo (.pick (.t 27) (.t 30) (.c (.bool false))) 31]
def mc_j : MC :=
 (sR [mo (.mv (.c (.bool false))) 0]
 (sR [mo (.build [(.int .i64 0),(.int .i64 0),(.int .i64 0)] [(0,1, (cI 0)), (1,1, (cI 0)), (2,1, (cI 1))]) 4,
 mo (.build [(.int .i64 0),(.int .i64 0),(.int .i64 0)] [(0,1, (cI 1)), (1,1, (cI 1)), (2,1, (cI 3))]) 5,
 mo (.bslice 3 [(.t 4),(.t 5)]) 6,
 mo (.build [(.int .i64 0),(.int .i64 0)] [(0,1, (cI 0)), (1,1, (cI 1))]) 7,
 mo (.bslice 2 [(.t 7)]) 8,
 mo (.build [(.int .i64 0),(.int .i64 0),(.sl []),(.sl []),(.sl [])] [(0,1, (cI 2)), (1,1, (cI 2)), (2,1,(.t 6)), (3,1,(.t 8))]) 9,
 mo (.alloc [(.int .i64 0),(.int .i64 0),(.sl []),(.sl []),(.sl [])]) 1,
 ⟨.st 5 (.t 1) (.t 9), none, none⟩]
 (.seq (.regI [.op (mo (.ld (some 5) (.t 1)) 11),
 .nt (.fz 11),
 .op (mo (.call (.f 18) [(.t 11), (cI 0), (cI 1)] [] []) 12),
 .op (oV 12 10),
 .op (mo (.ext 0 (.t 10)) 13),
 .op (mo (.ext 1 (.t 10)) 14),
 .op (oV 13 2),
 .op (oV 14 3)])
 (.seq (.note (.gc [1,2,3,20,23,24,25,28,29,30]) (.regI [.op (mo (.ld (some 5) (.t 1)) 15),
 .op (mo (.call (.f 11) [(.t 15), (cI 0)] [] []) 16),
 .op (mo (.lsl 1 [(cI 1), (cI 3)]) 17),
 .op (mo (.call (.f 14) [(.t 16),(.t 17)] [] []) 18),
 .op (oV 18 19),
 .grp mg_2k,
 .op (oV 21 22),
 .grp mg_2l,
 .op (oV 26 27),
 .grp mg_2m,
 .op (oV 31 0)]))
 .ret))))
theorem Wq_j : Cn Try.prog 7 [] [] F_j (fun z => .bool z) (fun z => []) := fun Q Q' h hQ => by
 refine acallM mc_j [] [] [.t 0] Try.func7 fun M => ?_
 unfold F_j at h
 unfold mc_j
 replace h := tY h
 refine tB ?_
 repeat' (first
 | (exact tZ)
 | ((first | refine oblg h ?_ | refine roomG h ?_ | refine fork h ?_ ?_ | refine forkS h ?_ ?_) <;> clear h <;> intro hc h)
 | (obtain ⟨y, hy, h⟩ := h; (first | with_reducible first | have hw := Wq_i.w hy | have hw := Wq_5.w hy | have hw := Wq_g.w hy | have hw := Wq_t.w hy); replace hw := tY hw; (first | refine M.sC hw ?_ | refine M.sD hw ?_); clear hw hy; refine tB ?_)
 | (refine M.gv1 (ms := mg_2m) 31 [28,29,30] h ?_ ?_ <;> first
 | (clear h; intro K hK1; unfold mg_2m; refine tB ?_)
 | (clear h; intro b h; replace h := tY h; refine tB ?_))
 | (refine M.gj1 (ms := mg_2l) [2] [] (fun y => [(26, .bool y)]) (fun y => []) h ?_ ?_ <;> first
 | (clear h; intro Qn K hK2 h; unfold mg_2l; replace h := tY h; refine tB ?_)
  |(clear h; intro y h; replace h := tY h; refine tB ?_))
 | (refine M.gv1 (ms := mg_2k) 21 [20] h ?_ ?_ <;> first
 | (clear h; intro K hK3; unfold mg_2k; refine tB ?_)
 | (clear h; intro b h; replace h := tY h; refine tB ?_))
 | ((first | refine hK1 _ ?_ | refine hK3 _ ?_); exact tU; done)
 | (refine hK2 _ ?_; (try refine tB ?_); refine ⟨_, h, ?_⟩; exact tU0; done)
 | (refine bfork (fun hc => ?_) (fun hc => ?_))
 | (refine tE ?_; (first | rw [M.lok_compU] | rw [M.lokD_compU]); refine tB ?_)
 | (refine tA ?_)
 | fail)
def F_2 (t_ : GTape) (n_ : Int) : Option (Int × GTape) :=
 bif decide ((t_.L.length : Int) ≤ t_.at_) then some (0, t_) else chk (inb t_.at_ t_.L.length) (chk (in64 (t_.at_ + 1)) (chk (divs ((t_.L.getD (t_.at_).toNat default) % 2 ^ 16) n_) (some ((((t_.L.getD (t_.at_).toNat default) % 2 ^ 16) % n_), (GTape.mk t_.L (t_.at_ + 1))))))
def mc_2 : MC :=
 (sR [oC 0 4]
 (.seq (.seq (.regD [oV 0 6,
 mo (.nck (.t 6)) 7,
 oF 1 7 8,
 oL 8 9,
 oV 0 10,
 mo (.nck (.t 10)) 11,
 oF 0 11 12,
 oL 12 13,
 mo (.len false (.t 13)) 14,
 mo (.bin false .geq (.t 9) (.t 14)) 15]
 [[],[0],[1],[2],[],[4],[5],[6],[7],[3,8]]
 [[],[0],[0,1],[0,1,2],[],[4],[4,5],[4,5,6],[4,5,6,7],[0,1,2,3,4,5,6,7,8]])
 (.cond (.t 15)
 (sR [oC 0 4]
 .ret)
 .skip))
 (.seq (.note (.gc [0,1]) (.regD [oV 0 16,
 mo (.nck (.t 16)) 17,
 oF 0 17 18,
 oL 18 19,
 oV 0 20,
 mo (.nck (.t 20)) 21,
 oF 1 21 22,
 oL 22 23,
 mo (.iad 1 (.t 19) (.t 23)) 24,
 oL 24 25,
 mo (.mask 16 (.t 25) .i64) 26,
 oV 26 5]
 [[],[0],[1],[2],[],[4],[5],[6],[3,7],[8],[9],[10,0,1,2,3,4,5,6,7,8,9,10]]
 [[],[0],[0,1],[0,1,2],[],[4],[4,5],[4,5,6],[0,1,2,3,4,5,6,7],[0,1,2,3,4,5,6,7,8],[0,1,2,3,4,5,6,7,8,9],[0,1,2,3,4,5,6,7,8,9,10]]))
 (.seq (.note (.gc [0,1,5]) (.reg [oV 0 27,
 mo (.nck (.t 27)) 28,
 oF 1 28 29,
 oL 29 30,
 mo (.bin true .add (.t 30) (cI 1)) 31,
 mo (.nck (.t 27)) 32,
 oF 1 32 33,
 ⟨.st 1 (.t 33) (.t 31), none, none⟩]))
 (.seq (.note (.gc [1,5]) (.reg [oV 5 34,
 oV 1 35,
 mo (.bin true .rem (.t 34) (.t 35)) 36,
 oV 36 4]))
 .ret)))))
theorem Wq_2 {t_ : GTape} {n_ : Int} : Cn Try.prog 9 [.ptr 1000 0, .int .i64 n_] [(1000, .cells [.sl (t_.L.map (V.int .i64)), .int .i64 t_.at_])] (F_2 t_ n_) (fun z => .int .i64 z.1) (fun z => [(1000, .cells [.sl (z.2.L.map (V.int .i64)), .int .i64 z.2.at_])]) := fun Q Q' h hQ => by
 refine acallM mc_2 [] [1000] [.t 4] Try.func9 fun M => ?_
 unfold F_2 at h
 unfold mc_2
 replace h := tY h
 refine tB ?_
 repeat' (first
 | (exact tZ)
 | ((first | refine oblg h ?_ | refine roomG h ?_ | refine divG h ?_ | refine fork h ?_ ?_ | refine forkS h ?_ ?_) <;> clear h <;> intro hc h)
 | (refine tE ?_; (first | rw [M.lok_compU] | rw [M.lokD_compU]); refine tB ?_)
 | (refine tA ?_)
 | fail)
def F_k (t_ : GTape) (a_ : Int) (b_ : Int) : Option (Int × GTape) :=
 chk (in64 (b_ - a_)) (chk (in64 ((b_ - a_) + 1)) ((F_2 t_ ((b_ - a_) + 1)).bind fun y2 => chk (in64 (a_ + y2.1)) (some ((a_ + y2.1), y2.2))))
def mc_k : MC :=
 (sR [oC 0 6]
 (sR [oV 1 7,
 oV 0 8,
 oV 2 9,
 oV 1 10,
 mo (.bin true .sub (.t 9) (.t 10)) 11,
 mo (.bin true .add (.t 11) (cI 1)) 12,
 mo (.call (.f 9) [(.t 8),(.t 12)] [1000] []) 13,
 mo (.bin true .add (.t 7) (.t 13)) 14,
 oV 14 6]
 .ret))
theorem Wq_k {t_ : GTape} {a_ b_ : Int} : Cn Try.prog 17 [.ptr 1000 0, .int .i64 a_, .int .i64 b_] [(1000, .cells [.sl (t_.L.map (V.int .i64)), .int .i64 t_.at_])] (F_k t_ a_ b_) (fun z => .int .i64 z.1) (fun z => [(1000, .cells [.sl (z.2.L.map (V.int .i64)), .int .i64 z.2.at_])]) := fun Q Q' h hQ => by
 refine acallM mc_k [] [1000] [.t 6] Try.func17 fun M => ?_
 unfold F_k at h
 unfold mc_k
 replace h := tY h
 refine tB ?_
 repeat' (first
 | (exact tZ)
 | ((first | refine oblg h ?_ | refine roomG h ?_ | refine fork h ?_ ?_ | refine forkS h ?_ ?_) <;> clear h <;> intro hc h)
 | (obtain ⟨y, hy, h⟩ := h; have hw := Wq_2.w hy; replace hw := tY hw; (first | refine M.sC hw ?_ | refine M.sD hw ?_); clear hw hy; refine tB ?_)
 | (refine tE ?_; (first | rw [M.lok_compU] | rw [M.lokD_compU]); refine tB ?_)
 | (refine tA ?_)
 | fail)
noncomputable def F_1s (x45 : Int × Int × Int × (List GGrant) × GTape) : Option (Fl (Int × Int × Int × (List GGrant) × GTape) (Int × Int × (List GGrant) × GTape)) :=
 bif decide (0 < x45.1) then (F_2 x45.2.2.2.2 x45.2.1).bind fun y55 => (F_2 y55.2 x45.2.2.1).bind fun y56 => (F_k y56.2 1 3).bind fun y57 => chk (room (x45.2.2.2.1.length + [(GGrant.mk y55.1 y56.1 y57.1)].length) 24) (chk (in64 (x45.1 - 1)) (some (.nx ((x45.1 - 1), x45.2.1, x45.2.2.1, (x45.2.2.2.1 ++ [(GGrant.mk y55.1 y56.1 y57.1)]), y57.2)))) else some (.ex (x45.2.1, x45.2.2.1, x45.2.2.2.1, x45.2.2.2.2))
noncomputable def F_1t (x89 : Int × Int × Int × (List GStore) × GTape) : Option (Fl (Int × Int × Int × (List GStore) × GTape) (Int × Int × (List GStore) × GTape)) :=
 bif decide (0 < x89.1) then (F_2 x89.2.2.2.2 x89.2.2.1).bind fun y96 => (F_2 y96.2 x89.2.1).bind fun y97 => chk (room (x89.2.2.2.1.length + [(GStore.mk y96.1 y97.1)].length) 16) (chk (in64 (x89.1 - 1)) (some (.nx ((x89.1 - 1), x89.2.1, x89.2.2.1, (x89.2.2.2.1 ++ [(GStore.mk y96.1 y97.1)]), y97.2)))) else some (.ex (x89.2.1, x89.2.2.1, x89.2.2.2.1, x89.2.2.2.2))
noncomputable def F_1u (x129 : Int × Int × Int × (List GMint) × GTape) : Option (Fl (Int × Int × Int × (List GMint) × GTape) (Int × Int × (List GMint) × GTape)) :=
 bif decide (0 < x129.1) then (F_2 x129.2.2.2.2 x129.2.1).bind fun y136 => (F_2 y136.2 x129.2.1).bind fun y137 => chk (room (x129.2.2.2.1.length + [(GMint.mk y136.1 y137.1)].length) 16) (chk (in64 (x129.1 - 1)) (some (.nx ((x129.1 - 1), x129.2.1, x129.2.2.1, (x129.2.2.2.1 ++ [(GMint.mk y136.1 y137.1)]), y137.2)))) else some (.ex (x129.2.1, x129.2.2.1, x129.2.2.2.1, x129.2.2.2.2))
noncomputable def F_n (t_ : GTape) : Option (GRights × GTape) :=
 (F_k t_ 1 6).bind fun y3 => (F_k y3.2 1 5).bind fun y4 => (F_2 y4.2 8).bind fun y30 => (loop F_1s (y30.1, y3.1, y4.1,[], y30.2)).bind fun r58 => (F_2 r58.2.2.2 5).bind fun y78 => (loop F_1t (y78.1, r58.1, r58.2.1,[], y78.2)).bind fun r98 => (F_2 r98.2.2.2 4).bind fun y118 => (loop F_1u (y118.1, r98.1, r98.2.1,[], y118.2)).bind fun r138 => some ((GRights.mk r138.1 r138.2.1 r58.2.2.1 r98.2.2.1 r138.2.2.1), r138.2.2.2)
@[irreducible] def mc_1s : MC :=
 (.seq (sR [oV 4 14,
 mo (.bin false .gtr (.t 14) (cI 0)) 15]
 (.cond (.t 15)
 .skip
 (.exit 0)))
 (.seq (.block 1
 (.regD [oF 2 3 18,
 oL 18 19,
 oV 0 20,
 oF 0 3 21,
 oL 21 22,
 mo (.call (.f 9) [(.t 20),(.t 22)] [1000] []) 23,
 oV 0 24,
 oF 1 3 25,
 oL 25 26,
 mo (.call (.f 9) [(.t 24),(.t 26)] [1000] []) 27,
 oV 0 28,
 mo (.call (.f 17) [(.t 28), (cI 1), (cI 3)] [1000] []) 29,
 mo (.build [(.int .i64 0),(.int .i64 0),(.int .i64 0)] [(0,1,(.t 23)), (1,1,(.t 27)), (2,1,(.t 29))]) 30,
 mo (.bslice 3 [(.t 30)]) 31,
 mo (.app 3 24 (.t 19) (.t 31)) 32,
 oF 2 3 33,
 ⟨.st 1 (.t 33) (.t 32), none, none⟩]
 [[],[0],[],[],[3],[2,4],[],[],[7],[6,8,5],[],[10,9],[5,9,11],[12],[1,13,11],[0,1,2,3,4,5,6,7,8,9,10,11,12,13,14],[15,14,14,0,1,2,3,4,5,6,7,8,9,10,11,12,13,14]]
 [[],[0],[],[],[3],[2,3,4],[],[],[7],[2,3,4,5,6,7,8],[],[2,3,4,5,6,7,8,9,10],[2,3,4,5,6,7,8,9,10,11],[2,3,4,5,6,7,8,9,10,11,12],[0,1,2,3,4,5,6,7,8,9,10,11,12,13],[0,1,2,3,4,5,6,7,8,9,10,11,12,13,14],[0,1,2,3,4,5,6,7,8,9,10,11,12,13,14,15]]))
 (.note (.gc [0,2,3,4]) (.reg [oV 4 16,
 mo (.bin true .sub (.t 16) (cI 1)) 17,
 oV 17 4]))))
@[irreducible] def mc_1t : MC :=
 (.seq (sR [oV 5 36,
 mo (.bin false .gtr (.t 36) (cI 0)) 37]
 (.cond (.t 37)
 .skip
 (.exit 2)))
 (.seq (.block 3
 (.regD [oF 3 3 40,
 oL 40 41,
 oV 0 42,
 oF 1 3 43,
 oL 43 44,
 mo (.call (.f 9) [(.t 42),(.t 44)] [1000] []) 45,
 oV 0 46,
 oF 0 3 47,
 oL 47 48,
 mo (.call (.f 9) [(.t 46),(.t 48)] [1000] []) 49,
 mo (.build [(.int .i64 0),(.int .i64 0)] [(0,1,(.t 45)), (1,1,(.t 49))]) 50,
 mo (.bslice 2 [(.t 50)]) 51,
 mo (.app 2 16 (.t 41) (.t 51)) 52,
 oF 3 3 53,
 ⟨.st 1 (.t 53) (.t 52), none, none⟩]
 [[],[0],[],[],[3],[2,4],[],[],[7],[6,8,5],[5,9],[10],[1,11,9],[0,1,2,3,4,5,6,7,8,9,10,11,12],[13,12,12,0,1,2,3,4,5,6,7,8,9,10,11,12]]
 [[],[0],[],[],[3],[2,3,4],[],[],[7],[2,3,4,5,6,7,8],[2,3,4,5,6,7,8,9],[2,3,4,5,6,7,8,9,10],[0,1,2,3,4,5,6,7,8,9,10,11],[0,1,2,3,4,5,6,7,8,9,10,11,12],[0,1,2,3,4,5,6,7,8,9,10,11,12,13]]))
 (.note (.gc [0,2,3,5]) (.reg [oV 5 38,
 mo (.bin true .sub (.t 38) (cI 1)) 39,
 oV 39 5]))))
@[irreducible] def mc_1u : MC :=
 (.seq (sR [oV 6 56,
 mo (.bin false .gtr (.t 56) (cI 0)) 57]
 (.cond (.t 57)
 .skip
 (.exit 4)))
 (.seq (.block 5
 (.regD [oF 4 3 60,
 oL 60 61,
 oV 0 62,
 oF 0 3 63,
 oL 63 64,
 mo (.call (.f 9) [(.t 62),(.t 64)] [1000] []) 65,
 oV 0 66,
 oF 0 3 67,
 oL 67 68,
 mo (.call (.f 9) [(.t 66),(.t 68)] [1000] []) 69,
 mo (.build [(.int .i64 0),(.int .i64 0)] [(0,1,(.t 65)), (1,1,(.t 69))]) 70,
 mo (.bslice 2 [(.t 70)]) 71,
 mo (.app 2 16 (.t 61) (.t 71)) 72,
 oF 4 3 73,
 ⟨.st 1 (.t 73) (.t 72), none, none⟩]
 [[],[0],[],[],[3],[2,4],[],[],[7],[6,8,5],[5,9],[10],[1,11,9],[0,1,2,3,4,5,6,7,8,9,10,11,12],[13,12,12,0,1,2,3,4,5,6,7,8,9,10,11,12]]
 [[],[0],[],[],[3],[2,3,4],[],[],[7],[2,3,4,5,6,7,8],[2,3,4,5,6,7,8,9],[2,3,4,5,6,7,8,9,10],[0,1,2,3,4,5,6,7,8,9,10,11],[0,1,2,3,4,5,6,7,8,9,10,11,12],[0,1,2,3,4,5,6,7,8,9,10,11,12,13]]))
 (.note (.gc [0,2,3,6]) (.reg [oV 6 58,
 mo (.bin true .sub (.t 58) (cI 1)) 59,
 oV 59 6]))))
def mc_n : MC :=
 (sR [mo (.alloc [(.int .i64 0),(.int .i64 0),(.sl []),(.sl []),(.sl [])]) 2]
 (sR [oV 0 7,
 mo (.call (.f 17) [(.t 7), (cI 1), (cI 6)] [1000] []) 8,
 oV 0 9,
 mo (.call (.f 17) [(.t 9), (cI 1), (cI 5)] [1000] []) 10,
 mo (.build [(.int .i64 0),(.int .i64 0), .nils, .nils, .nils] [(0,1,(.t 8)), (1,1,(.t 10))]) 11,
 mo (.alloc [(.int .i64 0),(.int .i64 0),(.sl []),(.sl []),(.sl [])]) 3,
 ⟨.st 5 (.t 3) (.t 11), none, none⟩]
 (.seq (sR [oV 0 12,
 mo (.call (.f 9) [(.t 12), (cI 8)] [1000] []) 13,
 oV 13 4]
 (.block 0
 (.loop mc_1s)))
 (.seq (sR [oV 0 34,
 mo (.call (.f 9) [(.t 34), (cI 5)] [1000] []) 35,
 oV 35 5]
 (.block 2
 (.loop mc_1t)))
 (.seq (sR [oV 0 54,
 mo (.call (.f 9) [(.t 54), (cI 4)] [1000] []) 55,
 oV 55 6]
 (.block 4
 (.loop mc_1u)))
 (sR [mo (.ld (some 5) (.t 3)) 74,
 ⟨.st 5 (.t 2) (.t 74), none, none⟩]
 .ret))))))
theorem Wq_n {t_ : GTape} : Cn Try.prog 8 [.ptr 1000 0] [(1000, .cells [.sl (t_.L.map (V.int .i64)), .int .i64 t_.at_])] (F_n t_) (fun z => GRights.v z.1) (fun z => [(1000, .cells [.sl (z.2.L.map (V.int .i64)), .int .i64 z.2.at_])]) := fun Q Q' h hQ => by
 refine acallM mc_n [.fzc 2] [1000] [.c 2 (some 5)] Try.func8 fun M => ?_
 unfold F_n at h
 unfold mc_n
 replace h := tY h
 refine tB ?_
 repeat' (first
 | (exact tZ)
 | ((first | refine oblg h ?_ | refine roomG h ?_ | refine fork h ?_ ?_ | refine forkS h ?_ ?_) <;> clear h <;> intro hc h)
 | (obtain ⟨y, hy, h⟩ := h; (first | with_reducible first | have hw := Wq_k.w hy | have hw := Wq_2.w hy); replace hw := tY hw; (first | refine M.sC hw ?_ | refine M.sD hw ?_); clear hw hy; refine tB ?_)
 | (refine M.wh1 (b := mc_1s) [0,2,3] [3,2] (fun x => [(4, .int .i64 x.1)]) (fun x => [.p 3 0 [.int .i64 x.2.1], .p 3 1 [.int .i64 x.2.2.1], .p 3 2 [.osl 4050 3 0 x.2.2.2.1.length], .o 4050 (.arr 3 (x.2.2.2.1.map GGrant.v)), .o 1000 (.cells [.sl (x.2.2.2.2.L.map (V.int .i64)), .int .i64 x.2.2.2.2.at_])]) [.gc [0,2,3,4], .ownC 3 2 4050 3 none] h ?_ ?_ <;> first
 | (clear h; intro x Qn K hK1 h; unfold F_1s at h; unfold mc_1s; replace h := tY h; refine tB ?_)
  |(clear h; (try refine tB ?_); exact tU0; done))
 | (refine M.wh1 (b := mc_1t) [0,2,3] [3,4050,2] (fun x => [(5, .int .i64 x.1)]) (fun x => [.p 3 0 [.int .i64 x.2.1], .p 3 1 [.int .i64 x.2.2.1], .p 3 3 [.osl 4051 2 0 x.2.2.2.1.length], .o 4051 (.arr 2 (x.2.2.2.1.map GStore.v)), .o 1000 (.cells [.sl (x.2.2.2.2.L.map (V.int .i64)), .int .i64 x.2.2.2.2.at_])]) [.gc [0,2,3,5], .ownC 3 3 4051 2 none] h ?_ ?_ <;> first
 | (clear h; intro x Qn K hK2 h; unfold F_1t at h; unfold mc_1t; replace h := tY h; refine tB ?_)
  |(clear h; (try refine tB ?_); exact tU0; done))
 | (refine M.wh1 (b := mc_1u) [0,2,3] [3,4050,4051,2] (fun x => [(6, .int .i64 x.1)]) (fun x => [.p 3 0 [.int .i64 x.2.1], .p 3 1 [.int .i64 x.2.2.1], .p 3 4 [.osl 4052 2 0 x.2.2.2.1.length], .o 4052 (.arr 2 (x.2.2.2.1.map GMint.v)), .o 1000 (.cells [.sl (x.2.2.2.2.L.map (V.int .i64)), .int .i64 x.2.2.2.2.at_])]) [.gc [0,2,3,6], .ownC 3 4 4052 2 none] h ?_ ?_ <;> first
 | (clear h; intro x Qn K hK3 h; unfold F_1u at h; unfold mc_1u; replace h := tY h; refine tB ?_)
  |(clear h; (try refine tB ?_); exact tU0; done))
 | ((first | refine hK1 _ ?_ | refine hK2 _ ?_ | refine hK3 _ ?_); (try refine tB ?_); refine ⟨_, h, ?_⟩; exact tU0; done)
 | (refine tE ?_; (first | rw [M.lok_compU] | rw [M.lokD_compU]); refine tB ?_)
 | (refine tA ?_)
 | fail)
noncomputable def F_1v (n_ : Int) (k_ : Int) (x22 : Int × (List Int) × GTape) : Option (Fl (Int × (List Int) × GTape) ((List Int) × GTape)) :=
 bif decide (x22.1 < n_) then jn (α := (List Int) × GTape) ((F_2 x22.2.2 k_).bind fun y30 => chk (in64 (k_ - 1)) (bif decide (y30.1 = (k_ - 1)) then chk (room (x22.2.1.length + [x22.1].length) 8) (some ((x22.2.1 ++ [x22.1]), y30.2)) else some (x22.2.1, y30.2))) fun j28 => chk (in64 (x22.1 + 1)) (some (.nx ((x22.1 + 1), j28.1, j28.2))) else some (.ex (x22.2.1, x22.2.2))
noncomputable def F_u (t_ : GTape) (n_ : Int) (k_ : Int) : Option ((List Int) × GTape) :=
 (loop (F_1v n_ k_) (0,[], t_)).bind fun r31 => some (r31.1, r31.2)
@[irreducible] def mc_2n : MC :=
 (.reg [oV 8 12,
 mo (.bin true .add (.t 12) (cI 1)) 13,
 oV 13 8])
@[irreducible] def mc_1v : MC :=
 (.seq (sR [oV 8 9,
 oV 1 10,
 mo (.bin false .lss (.t 9) (.t 10)) 11]
 (.cond (.t 11)
 .skip
 (.exit 0)))
 (.cut (.block 1
 (sR [oV 0 14,
 oV 2 15,
 mo (.call (.f 9) [(.t 14),(.t 15)] [1000] []) 16,
 oV 2 17,
 mo (.bin true .sub (.t 17) (cI 1)) 18,
 mo (.bin false .eql (.t 16) (.t 18)) 19]
 (.cond (.t 19)
 (.note (.gc [0,1,2,7,8]) (.reg [oV 7 20,
 oV 8 21,
 mo (.bslice 1 [(.t 21)]) 22,
 mo (.app 1 8 (.t 20) (.t 22)) 23,
 oV 23 7]))
 .skip)))
 mc_2n))
def mc_u : MC :=
 (sR [mo (.mv (.c (.sl []))) 6]
 (sR [mo (.mv (.c .nils)) 7]
 (.seq (sR [oC 0 8]
 (.block 0
 (.loop mc_1v)))
 (sR [oV 7 24,
 oV 24 6]
 .ret))))
theorem Wq_u {t_ : GTape} {n_ k_ : Int} : Cn Try.prog 16 [.ptr 1000 0, .int .i64 n_, .int .i64 k_] [(1000, .cells [.sl (t_.L.map (V.int .i64)), .int .i64 t_.at_])] (F_u t_ n_ k_) (fun z => .sl (z.1.map (V.int .i64))) (fun z => [(1000, .cells [.sl (z.2.L.map (V.int .i64)), .int .i64 z.2.at_])]) := fun Q Q' h hQ => by
 refine acallM mc_u [.fz 6] [1000] [.t 6] Try.func16 fun M => ?_
 unfold F_u at h
 unfold mc_u
 replace h := tY h
 refine tB ?_
 repeat' (first
 | (exact tZ)
 | ((first | refine oblg h ?_ | refine roomG h ?_ | refine fork h ?_ ?_ | refine forkS h ?_ ?_) <;> clear h <;> intro hc h)
 | (obtain ⟨y, hy, h⟩ := h; have hw := Wq_2.w hy; replace hw := tY hw; (first | refine M.sC hw ?_ | refine M.sD hw ?_); clear hw hy; refine tB ?_)
 | (refine M.jn1 (b := mc_2n) [0,1,2,8] [] (fun y => [(7, .osl 2007 1 0 y.1.length)]) (fun y => [.o 2007 (.arr 1 (y.1.map (V.int .i64))), .o 1000 (.cells [.sl (y.2.L.map (V.int .i64)), .int .i64 y.2.at_])]) [.gc [0,1,2,7,8], .acc 7 2007 1] h ?_ ?_ <;> first
 | (clear h; intro Qn K hK1 h; replace h := tY h; refine tB ?_)
  |(clear h; intro y h; unfold mc_2n; replace h := tY h; refine tB ?_))
 | (refine M.wh1 (b := mc_1v) [0,1,2] [] (fun x => [(7, .osl 2007 1 0 x.2.1.length), (8, .int .i64 x.1)]) (fun x => [.o 2007 (.arr 1 (x.2.1.map (V.int .i64))), .o 1000 (.cells [.sl (x.2.2.L.map (V.int .i64)), .int .i64 x.2.2.at_])]) [.gc [0,1,2,7,8], .acc 7 2007 1] h ?_ ?_ <;> first
 | (clear h; intro x Qn K hK2 h; unfold F_1v at h; unfold mc_1v; replace h := tY h; refine tB ?_)
  |(clear h; (try refine tB ?_); exact tU0; done))
 | ((first | refine hK1 _ ?_ | refine hK2 _ ?_); (try refine tB ?_); refine ⟨_, h, ?_⟩; exact tU0; done)
 | (refine tE ?_; (first | rw [M.lok_compU] | rw [M.lokD_compU]); refine tB ?_)
 | (refine tA ?_)
 | fail)
def F_15 (x_ : Int) (k11 : Int) (a12 : Int) (x10 : Unit) : Option (Fl Unit Bool) :=
 bif decide (a12 = x_) then some (.ex true) else some (.nx ())
def F_o (l_ : List Int) (x_ : Int) : Option Bool :=
 (forL (F_15 x_) l_ 0 ()).bind fun o => o.elim (fun x13 => some false) (fun r14 => some r14)
@[irreducible] def mc_15 : MC :=
 (sR [mo (.bin false .lss (.t 9) (.t 8)) 10]
 (.seq (.cond (.t 10)
 .skip
 (.exit 0))
 (.seq (.block 1
 (sR [mo (.iad 1 (.t 7) (.t 9)) 11,
 oL 11 12,
 oV 12 6]
 (sR [oV 6 13,
 oV 1 14,
 mo (.bin false .eql (.t 13) (.t 14)) 15]
 (.cond (.t 15)
 (sR [mo (.mv (.c (.bool true))) 4]
 .ret)
 .skip))))
 (.reg [mo (.bin true .add (.t 9) (cI 1)) 16,
 oV 16 9]))))
def mc_o : MC :=
 (sR [mo (.mv (.c (.bool false))) 4]
 (.seq (sR [oV 0 7,
 mo (.len false (.t 7)) 8,
 oC 0 9]
 (.block 0
 (.loop mc_15)))
 (sR [mo (.mv (.c (.bool false))) 4]
 .ret)))
theorem Wq_o {l_ : List Int} {x_ : Int} : Cn Try.prog 12 [.sl (l_.map (V.int .i64)), .int .i64 x_] [] (F_o l_ x_) (fun z => .bool z) (fun z => []) := fun Q Q' h hQ => by
 refine acallM mc_o [] [] [.t 4] Try.func12 fun M => ?_
 unfold F_o at h
 unfold mc_o
 replace h := tY h
 refine tB ?_
 repeat' (first
 | (exact tZ)
 | ((first | refine oblg h ?_ | refine roomG h ?_ | refine fork h ?_ ?_ | refine forkS h ?_ ?_) <;> clear h <;> intro hc h)
 | (refine M.for1 (b := mc_15) 9 [1,7,8] [] (fun x => []) (fun x => []) [] h ?_ ?_ ?_ <;> first
 | (clear h; intro k a x Qn K hK1 hkN1 ha1 h hf; have hl := fact_int (factsE_find (n := 8) hf.1 rfl); clear hf; have hkd := kD hkN1; have hkB1 := kB hkN1; have hkI1 := kI (k := k) (by omega); unfold F_15 at h; unfold mc_15; replace h := tY h; refine tK ha1 hkd hkN1 hkB1 hkI1 ?_)
  |(clear h; intro x K h; replace h := And.left (And.intro h trivial); unfold mc_15; replace h := tY h; refine tB ?_)
  |(clear h; (try refine tB ?_); exact tU0; done))
 | (simp only [ha1])
 | (refine hK1 _ ?_; (try refine tB ?_); refine ⟨_, h, ?_⟩; exact tU0; done)
 | (refine tE ?_; (first | rw [M.lok_compU] | rw [M.lokD_compU]); refine tB ?_)
 | (refine tA ?_)
 | fail)
end Go.Ab
