/- What the functions of this seat that lie on the laws' road compute (part LB), each for every input. By AI agents. -/
import Derived.Test.YtgjicmoegmbipaaGreatProg
import Derived.KernelRfl
import Derived.Test.YtgjicmoegmbipaaGreatAbFun
import Derived.Test.YtgjicmoegmbipaaGreatLA
set_option linter.all false
set_option linter.all false
set_option maxRecDepth 20000
set_option maxHeartbeats 2000000
namespace Go.Ab
open Go.Proofs
structure GExposure where
 Principal : Int
 Time : Int
instance : Inhabited GExposure := ⟨⟨default, default⟩⟩
def GExposure.v (x : GExposure) : V := .agg [.int .i64 x.Principal, .int .i64 x.Time]
structure GReading where
 Place : Int
 Time : Int
 Link : Int
 Grant : Int
 Chain : List Int
instance : Inhabited GReading := ⟨⟨default, default, default, default, default⟩⟩
def GReading.v (x : GReading) : V := .agg [.int .i64 x.Place, .int .i64 x.Time, .int .i64 x.Link, .int .i64 x.Grant, .sl (x.Chain.map (V.int .i64))]
structure GLeak where
 Way : List Int
 Reading : GReading
instance : Inhabited GLeak := ⟨⟨default, default⟩⟩
def GLeak.v (x : GLeak) : V := .agg [.sl (x.Way.map (V.int .i64)), .int .i64 x.Reading.Place, .int .i64 x.Reading.Time, .int .i64 x.Reading.Link, .int .i64 x.Reading.Grant, .sl (x.Reading.Chain.map (V.int .i64))]
attribute [go_sem] GExposure.v GLeak.v GReading.v
def F_g (d_ : GDirectory) (a_ : GEstate) (content_ : Int) : Option Int :=
 (F_10 d_ a_).bind fun y4 => bif (!decide (y4 = 0)) then some y4 else (F_2 content_).bind fun y8 => bif (!y8) then some 2 else some 0
def mc_g : MC :=
 (sR [mo (.box (.t 0)) 3,
 mo (.box (.t 1)) 4,
 oC 0 6]
 (.seq (sR [mo (.ld (some 2) (.t 3)) 8,
 mo (.ld (some 2) (.t 4)) 9,
 mo (.call (.f 50) [(.t 8),(.t 9)] [] []) 10,
 oV 10 7]
 (sR [oV 7 11,
 mo (.bin false .neq (.t 11) (cI 0)) 12]
 (.cond (.t 12)
 (sR [oV 7 13,
 oV 13 6]
 .ret)
 .skip)))
 (.seq (.seq (.note (.gc [2]) (.reg [oV 2 14,
 mo (.call (.f 51) [(.t 14)] [] []) 15,
 mo (.not (.t 15)) 16]))
 (.cond (.t 16)
 (sR [oC 2 6]
 .ret)
 .skip))
 (sR [oC 0 6]
 .ret))))
theorem Wq_g {d_ : GDirectory} {a_ : GEstate} {content_ : Int} : Cn Tryz.prog 28 [GDirectory.v d_, GEstate.v a_, .int .i64 content_] [] (F_g d_ a_ content_) (fun z => .int .i64 z) (fun z => []) := fun Q Q' h hQ => by
 refine acallM mc_g [] [] [.t 6] Tryz.func28 fun M => ?_
 unfold F_g at h
 unfold mc_g
 replace h := tY h
 refine tB ?_
 repeat' (first
 | (exact tZ)
 | ((first | refine oblg h ?_ | refine roomG h ?_ | refine fork h ?_ ?_ | refine forkS h ?_ ?_) <;> clear h <;> intro hc h)
 | (obtain ⟨y, hy, h⟩ := h; (first | with_reducible first | have hw := Wq_10.w hy | have hw := Wq_2.w hy); replace hw := tY hw; (first | refine M.sC hw ?_ | refine M.sD hw ?_); clear hw hy; refine tB ?_)
 | (refine tE ?_; (first | rw [M.lok_compU] | rw [M.lokD_compU]); refine tB ?_)
 | (refine tA ?_))
def F_r (content_ : Int) : Option Int :=
 chk (shok content_ 64) (some (IntKind.wrap .u64 (1 * 2 ^ (content_).toNat)))
def mc_r : MC :=
 (sR [mo (.mv (.c (.int .u64 0))) 2]
 (sR [oV 0 3,
 mo (.bin false .shl (.c (.int .u64 1)) (.t 3)) 4,
 oV 4 2]
 .ret))
theorem Wq_r {content_ : Int} : Cn Tryz.prog 88 [.int .i64 content_] [] (F_r content_) (fun z => .int .u64 z) (fun z => []) := fun Q Q' h hQ => by
 refine acallM mc_r [] [] [.t 2] Tryz.func88 fun M => ?_
 unfold F_r at h
 unfold mc_r
 replace h := tY h
 refine tB ?_
 repeat' (first
 | (exact tZ)
 | ((first | refine oblg h ?_ | refine roomG h ?_ | refine fork h ?_ ?_ | refine forkS h ?_ ?_) <;> clear h <;> intro hc h)
 | (refine tE ?_; (first | rw [M.lok_compU] | rw [M.lokD_compU]); refine tB ?_)
 | (refine tA ?_))
def F_h (s_ : List Int) (x_ : GAccess) : Option (List Int) :=
 bif decide (x_.Kind = 5) then chk (inb x_.Place s_.length) ((F_r x_.Content).bind fun y1 => chk (inb x_.Place s_.length) (some (s_.set ((x_.Place).toNat) (bits .or .u64 (s_.getD ((x_.Place).toNat) default) y1)))) else bif decide (x_.Kind = 6) then chk (inb x_.Place s_.length) ((F_r x_.Content).bind fun y2 => chk (inb x_.Place s_.length) (some (s_.set ((x_.Place).toNat) (bits .andNot .u64 (s_.getD ((x_.Place).toNat) default) y2)))) else bif decide (x_.Kind = 7) then chk (inb x_.Place s_.length) (chk (inb x_.From s_.length) (chk (inb x_.Place s_.length) (some (s_.set ((x_.Place).toNat) (bits .or .u64 (s_.getD ((x_.Place).toNat) default) (s_.getD ((x_.From).toNat) default)))))) else some s_
def mc_h : MC :=
 (sR [mo (.box (.t 1)) 3]
 (sR [oF 1 3 4,
 oL 4 5]
 (.block 0
 (sR [mo (.bin false .eql (.t 5) (cI 5)) 7,
 oV 7 6]
 (.cond (.t 6)
 (.regD [oV 0 8,
 oF 2 3 9,
 oL 9 10,
 mo (.iad 1 (.t 8) (.t 10)) 11,
 oL 11 12,
 oF 5 3 13,
 oL 13 14,
 mo (.call (.f 88) [(.t 14)] [] []) 15,
 mo (.bin false .or (.t 12) (.t 15)) 16,
 mo (.iad 1 (.t 8) (.t 10)) 17,
 ⟨.st 1 (.t 17) (.t 16), none, none⟩]
 [[],[],[1],[0,2],[3],[],[5],[6],[4,7],[0,2,0,1,2,3,4,5,6,7,8],[9,8,7,0,1,2,3,4,5,6,7,8]]
 [[],[],[1],[0,1,2],[0,1,2,3],[],[5],[5,6],[0,1,2,3,4,5,6,7],[0,1,2,3,4,5,6,7,8],[0,1,2,3,4,5,6,7,8,9]])
 (sR [mo (.bin false .eql (.t 5) (cI 6)) 19,
 oV 19 18]
 (.cond (.t 18)
 (.regD [oV 0 20,
 oF 2 3 21,
 oL 21 22,
 mo (.iad 1 (.t 20) (.t 22)) 23,
 oL 23 24,
 oF 5 3 25,
 oL 25 26,
 mo (.call (.f 88) [(.t 26)] [] []) 27,
 mo (.bin false .andNot (.t 24) (.t 27)) 28,
 mo (.iad 1 (.t 20) (.t 22)) 29,
 ⟨.st 1 (.t 29) (.t 28), none, none⟩]
 [[],[],[1],[0,2],[3],[],[5],[6],[4,7],[0,2,0,1,2,3,4,5,6,7,8],[9,8,7,0,1,2,3,4,5,6,7,8]]
 [[],[],[1],[0,1,2],[0,1,2,3],[],[5],[5,6],[0,1,2,3,4,5,6,7],[0,1,2,3,4,5,6,7,8],[0,1,2,3,4,5,6,7,8,9]])
 (sR [mo (.bin false .eql (.t 5) (cI 7)) 31,
 oV 31 30]
 (.cond (.t 30)
 (.note (.gc [0,3]) (.regD [oV 0 32,
 oF 2 3 33,
 oL 33 34,
 mo (.iad 1 (.t 32) (.t 34)) 35,
 oL 35 36,
 oV 0 37,
 oF 6 3 38,
 oL 38 39,
 mo (.iad 1 (.t 37) (.t 39)) 40,
 oL 40 41,
 mo (.bin false .or (.t 36) (.t 41)) 42,
 mo (.iad 1 (.t 32) (.t 34)) 43,
 ⟨.st 1 (.t 43) (.t 42), none, none⟩]
 [[],[],[1],[0,2],[3],[],[],[6],[5,7],[8],[4,9],[0,2,0,1,2,3,4,5,6,7,8,9,10],[11,10,0,1,2,3,4,5,6,7,8,9,10]]
 [[],[],[1],[0,1,2],[0,1,2,3],[],[],[6],[5,6,7],[5,6,7,8],[0,1,2,3,4,5,6,7,8,9],[0,1,2,3,4,5,6,7,8,9,10],[0,1,2,3,4,5,6,7,8,9,10,11]]))
 .skip)))))))))
theorem Wq_h {s_ : List Int} {x_ : GAccess} : Cn Tryz.prog 109 [.osl 1000 1 0 s_.length, GAccess.v x_] [(1000, .arr 1 (s_.map (V.int .u64)))] (F_h s_ x_) (fun z => .tup []) (fun z => [(1000, .arr 1 (z.map (V.int .u64)))]) := fun Q Q' h hQ => by
 refine acallM mc_h [] [1000] [] Tryz.func109 fun M => ?_
 unfold F_h at h
 unfold mc_h
 replace h := tY h
 refine tB ?_
 repeat' (first
 | (exact tZ)
 | ((first | refine oblg h ?_ | refine roomG h ?_ | refine fork h ?_ ?_ | refine forkS h ?_ ?_) <;> clear h <;> intro hc h)
 | (obtain ⟨y, hy, h⟩ := h; have hw := Wq_r.w hy; replace hw := tY hw; (first | refine M.sC hw ?_ | refine M.sD hw ?_); clear hw hy; refine tB ?_)
 | (refine tE ?_; (first | rw [M.lok_compU] | rw [M.lokD_compU]); refine tB ?_)
 | (refine ⟨_, getE_mapset (by first | exact inb_toNat (by assumption) | exact inb_nat (by assumption)), ?_⟩; (first | rw [M.lok_compU] | rw [M.lokD_compU] | (simp only [V.cells]; first | rw [M.lok_comp] | rw [M.lokD_comp])); refine tB ?_)
 | (refine tA ?_))
theorem F_7x {s_ : List Int} {x_ : GAccess} {y : List Int} (h : (F_h s_ x_) = some y) : y.length = s_.length := by
 simp only [F_h, chk, cond_eq_ite, Option.bind_eq_some_iff] at h
 repeat' (first | (split at h) | (simp only [Option.bind_eq_some_iff] at h) | (obtain ⟨_, _, h⟩ := h) | (cases h; done) | (obtain rfl := Option.some.inj h; simp; done) | (simp; done) | (subst h; simp; done))
def F_2p (t_ : Int) (k30 : Int) (a31 : GAccess) (x29 : List Int) : Option (List Int) :=
 bif decide (a31.Time ≤ t_) then (F_h x29 a31).bind fun y35 => some y35 else some x29
def F_14 (a_ : GEstate) (t_ : Int) : Option (List Int) :=
 chk (roomI a_.Places a_.Places 8) ((foldL (F_2p t_) a_.Events 0 (List.replicate (a_.Places).toNat 0)).bind fun x36 => some x36)
@[irreducible] def mc_2p : MC :=
 (sR [mo (.bin false .lss (.t 14) (.t 13)) 15]
 (.seq (.cond (.t 15)
 .skip
 (.exit 0))
 (.seq (.block 1
 (sR [mo (.iad 7 (.t 12) (.t 14)) 16,
 mo (.ld (some 7) (.t 16)) 17,
 mo (.alloc [(.int .i64 0),(.int .i64 0),(.int .i64 0),(.int .i64 0),(.int .i64 0),(.int .i64 0),(.int .i64 0)]) 7,
 ⟨.st 7 (.t 7) (.t 17), none, none⟩]
 (sR [oF 0 7 18,
 oL 18 19,
 oV 1 20,
 mo (.bin false .leq (.t 19) (.t 20)) 21]
 (.cond (.t 21)
 (.reg [oV 5 22,
 mo (.ld (some 7) (.t 7)) 23,
 mo (.call (.f 109) [(.t 22),(.t 23)] [10] []) 24])
 .skip))))
 (.reg [mo (.bin true .add (.t 14) (cI 1)) 25,
 oV 25 14]))))
def mc_14 : MC :=
 (sR [mo (.box (.t 0)) 2,
 mo (.mv (.c (.sl []))) 4]
 (sR [oF 0 2 8,
 oL 8 9,
 mo (.mksl 1 8 (.int .u64 0) (.t 9) (.t 9)) 10,
 oV 10 5]
 (.seq (sR [oF 1 2 11,
 oL 11 12,
 mo (.len false (.t 12)) 13,
 oC 0 14]
 (.block 0
 (.loop mc_2p)))
 (sR [oV 5 26,
 oV 26 4]
 .ret))))
theorem Wq_14 {a_ : GEstate} {t_ : Int} : Cn Tryz.prog 87 [GEstate.v a_, .int .i64 t_] [] (F_14 a_ t_) (fun z => .sl (z.map (V.int .u64))) (fun z => []) := fun Q Q' h hQ => by
 refine acallM mc_14 [.fz 4] [] [.t 4] Tryz.func87 fun M => ?_
 unfold F_14 at h
 unfold mc_14
 replace h := tY h
 refine tB ?_
 repeat' (first
 | (exact tZ)
 | ((first | refine oblg h ?_ | refine roomG h ?_ | refine fork h ?_ ?_ | refine forkS h ?_ ?_) <;> clear h <;> intro hc h)
 | (obtain ⟨y, hy, h⟩ := h; (have hw := acall_swe 1000 10 (Wq_h.w hy); replace hw := tY hw; have hlen := F_7x hy); replace hw := tY hw; (first | refine M.sC hw ?_ | refine M.sD hw ?_); clear hw hy; refine tB ?_)
 | (refine M.fold1 (b := mc_2p) 14 [1,12,13] [] (fun x => [(5, .osl 10 1 0 x.length)]) (fun x => [.o 10 (.arr 1 (x.map (V.int .u64)))]) [] h ?_ ?_ ?_ <;> first
 | (clear h; intro k a x Qn K hK1 hkN1 ha1 h hf; have hl := fact_int (factsE_find (n := 13) hf.1 rfl); clear hf; have hkd := kD hkN1; have hkB1 := kB hkN1; have hkI1 := kI (k := k) (by omega); unfold F_2p at h; unfold mc_2p; replace h := tY h; refine tK ha1 hkd hkN1 hkB1 hkI1 ?_)
  |(clear h; intro x K h; replace h := And.left (And.intro h trivial); unfold mc_2p; replace h := tY h; refine tB ?_)
  |(clear h; (try refine tB ?_); exact tU; done))
 | (simp only [ha1])
 | (refine hK1 _ ?_; (try refine tB ?_); refine ⟨_, h, ?_⟩; exact tU; done)
 | (refine tE ?_; (first | rw [M.lok_compU] | rw [M.lokD_compU]); refine tB ?_)
 | (refine tA ?_))
def F_2q (content_ : Int) (k56 : Int) (a57 : Int) (x55 : List Int) : Option (List Int) :=
 (F_r content_).bind fun y65 => bif (!decide ((bits .and .u64 a57 y65) = 0)) then chk (room (x55.length + [k56].length) 8) (some (x55 ++ [k56])) else some x55
def F_s (a_ : GEstate) (content_ : Int) (t_ : Int) : Option (List Int) :=
 (F_5 a_).bind fun y7 => bif (!decide (y7 = 0)) then some [] else (F_2 content_).bind fun y8 => bif (!y8) then some [] else (F_14 a_ t_).bind fun y37 => (foldL (F_2q content_) y37 0 []).bind fun x66 => some x66
@[irreducible] def mc_2q : MC :=
 (sR [mo (.bin false .lss (.t 22) (.t 21)) 23]
 (.seq (.cond (.t 23)
 .skip
 (.exit 0))
 (.seq (.block 1
 (sR [oV 22 24,
 mo (.iad 1 (.t 20) (.t 22)) 25,
 oL 25 26,
 oV 24 8,
 oV 26 9]
 (sR [oV 9 27,
 oV 1 28,
 mo (.call (.f 88) [(.t 28)] [] []) 29,
 mo (.bin false .and (.t 27) (.t 29)) 30,
 mo (.bin false .neq (.t 30) (.c (.int .u64 0))) 31]
 (.cond (.t 31)
 (.note (.gc [1,7,8,20,21,22]) (.reg [oV 7 32,
 oV 8 33,
 mo (.bslice 1 [(.t 33)]) 34,
 mo (.app 1 8 (.t 32) (.t 34)) 35,
 oV 35 7]))
 .skip))))
 (.reg [mo (.bin true .add (.t 22) (cI 1)) 36,
 oV 36 22]))))
def mc_s : MC :=
 (sR [mo (.box (.t 0)) 3,
 mo (.mv (.c (.sl []))) 6]
 (.seq (sR [mo (.ld (some 2) (.t 3)) 10,
 mo (.call (.f 62) [(.t 10)] [] []) 11,
 mo (.bin false .neq (.t 11) (cI 0)) 12,
 oV 12 13,
 gF 13 14 (.mv (.t 1)),
 gF 13 15 (.call (.f 51) [(.t 14)] [] []),
 gF 13 16 (.not (.t 15)),
 mo (.pick (.t 13) (.c (.bool true)) (.t 16)) 17]
 (.cond (.t 17)
 (sR [mo (.mv (.c (.sl []))) 6]
 .ret)
 .skip))
 (sR [mo (.mv (.c .nils)) 7]
 (.seq (.seq (.note (.gc [1,2,3,7]) (.reg [mo (.ld (some 2) (.t 3)) 18,
 oV 2 19,
 mo (.call (.f 87) [(.t 18),(.t 19)] [] []) 20,
 mo (.len false (.t 20)) 21,
 oC 0 22]))
 (.block 0
 (.loop mc_2q)))
 (sR [oV 7 37,
 oV 37 6]
 .ret)))))
theorem Wq_s {a_ : GEstate} {content_ t_ : Int} : Cn Tryz.prog 60 [GEstate.v a_, .int .i64 content_, .int .i64 t_] [] (F_s a_ content_ t_) (fun z => .sl (z.map (V.int .i64))) (fun z => []) := fun Q Q' h hQ => by
 refine acallM mc_s [.fz 6] [] [.t 6] Tryz.func60 fun M => ?_
 unfold F_s at h
 unfold mc_s
 replace h := tY h
 refine tB ?_
 repeat' (first
 | (exact tZ)
 | ((first | refine oblg h ?_ | refine roomG h ?_ | refine fork h ?_ ?_ | refine forkS h ?_ ?_) <;> clear h <;> intro hc h)
 | (obtain ⟨y, hy, h⟩ := h; (first | with_reducible first | have hw := Wq_5.w hy | have hw := Wq_2.w hy | have hw := Wq_14.w hy | have hw := Wq_r.w hy); replace hw := tY hw; (first | refine M.sC hw ?_ | refine M.sD hw ?_); clear hw hy; refine tB ?_)
 | (refine M.fold1 (b := mc_2q) 22 [1,20,21] [] (fun x => [(7, .osl 2007 1 0 x.length)]) (fun x => [.o 2007 (.arr 1 (x.map (V.int .i64)))]) [.gc [1,7,20,21,22], .acc 7 2007 1] h ?_ ?_ ?_ <;> first
 | (clear h; intro k a x Qn K hK1 hkN1 ha1 h hf; have hl := fact_int (factsE_find (n := 21) hf.1 rfl); clear hf; have hkd := kD hkN1; have hkB1 := kB hkN1; have hkI1 := kI (k := k) (by omega); unfold F_2q at h; unfold mc_2q; replace h := tY h; refine tK ha1 hkd hkN1 hkB1 hkI1 ?_)
  |(clear h; intro x K h; replace h := And.left (And.intro h trivial); unfold mc_2q; replace h := tY h; refine tB ?_)
  |(clear h; (try refine tB ?_); exact tU0; done))
 | (simp only [ha1])
 | (refine hK1 _ ?_; (try refine tB ?_); refine ⟨_, h, ?_⟩; exact tU0; done)
 | (refine tE ?_; (first | rw [M.lok_compU] | rw [M.lokD_compU]); refine tB ?_)
 | (refine tA ?_))
noncomputable def F_2r (d_ : GDirectory) (a_ : GEstate) (p_ : Int) (t_ : Int) (k75 : Int) (a76 : Int) (x74 : Unit) : Option (Fl Unit (Int × Bool)) :=
 (F_8 a_ a76 t_).bind fun y96 => grp ((decide (p_ = (-1)) && y96.2)) fun b99 => bif b99 then some (.ex (a76, true)) else bif (!decide (p_ = (-1))) then (F_13 d_ a_ p_ a76 t_).bind fun y100 => bif y100 then some (.ex (a76, true)) else some (.nx ()) else some (.nx ())
noncomputable def F_15 (d_ : GDirectory) (a_ : GEstate) (content_ : Int) (p_ : Int) (t_ : Int) : Option (Int × Bool) :=
 (F_s a_ content_ t_).bind fun y47 => (forL (F_2r d_ a_ p_ t_) y47 0 ()).bind fun o => o.elim (fun x101 => some (0, false)) (fun r102 => some r102)
@[irreducible] def mg_50 : List MOp := [gT 34 35 (.mv (.t 15)),
 mo (.pick (.t 34) (.t 35) (.c (.bool false))) 36]
@[irreducible] def mc_2r : MC :=
 (sR [mo (.bin false .lss (.t 21) (.t 20)) 22]
 (.seq (.cond (.t 22)
 .skip
 (.exit 0))
 (.seq (.block 1
 (sR [mo (.iad 1 (.t 19) (.t 21)) 23,
 oL 23 24,
 oV 24 13]
 (sR [mo (.ld (some 2) (.t 6)) 26,
 oV 13 27,
 oV 4 28,
 mo (.call (.f 43) [(.t 26),(.t 27),(.t 28)] [] []) 29,
 oV 29 25,
 mo (.ext 0 (.t 25)) 30,
 mo (.ext 1 (.t 25)) 31,
 oV 30 14,
 oV 31 15]
 (.seq (.note (.gc [3,4,5,6,13,15,19,20,21,35,38,39,40,41,42,43,44,45,46,47]) (.regI [.op (oV 3 32),
 .op (mo (.bin false .eql (.t 32) (cI (-1))) 33),
 .op (oV 33 34),
 .grp mg_50,
 .op (oV 36 37),
 .op (gF 37 38 (.mv (.t 3))),
 .op (gF 37 39 (.bin false .neq (.t 38) (cI (-1)))),
 .op (gF 37 40 (.mv (.t 39))),
 .op (gT 40 41 (.ld (some 2) (.t 5))),
 .op (gT 40 42 (.ld (some 2) (.t 6))),
 .op (gT 40 43 (.mv (.t 3))),
 .op (gT 40 44 (.mv (.t 13))),
 .op (gT 40 45 (.mv (.t 4))),
 .op (gT 40 46 (.call (.f 61) [(.t 41),(.t 42),(.t 43),(.t 44),(.t 45)] [] [])),
 .op (gF 37 47 (.pick (.t 40) (.t 46) (.c (.bool false)))),
 .op (mo (.pick (.t 37) (.c (.bool true)) (.t 47)) 48)]))
 (.cond (.t 48)
 (.seq (.note (.gc [13]) (.reg [oV 13 49,
 oV 49 10,
 mo (.mv (.c (.bool true))) 11]))
 .ret)
 .skip)))))
 (.reg [mo (.bin true .add (.t 21) (cI 1)) 50,
 oV 50 21]))))
def mc_15 : MC :=
 (sR [mo (.box (.t 0)) 5,
 mo (.box (.t 1)) 6,
 oC 0 10,
 mo (.mv (.c (.bool false))) 11]
 (.seq (sR [mo (.ld (some 2) (.t 6)) 16,
 oV 2 17,
 oV 4 18,
 mo (.call (.f 60) [(.t 16),(.t 17),(.t 18)] [] []) 19,
 mo (.len false (.t 19)) 20,
 oC 0 21]
 (.block 0
 (.loop mc_2r)))
 (sR [oC 0 10,
 mo (.mv (.c (.bool false))) 11]
 .ret)))
theorem Wq_15 {d_ : GDirectory} {a_ : GEstate} {content_ p_ t_ : Int} : Cn Tryz.prog 35 [GDirectory.v d_, GEstate.v a_, .int .i64 content_, .int .i64 p_, .int .i64 t_] [] (F_15 d_ a_ content_ p_ t_) (fun z => .tup [.int .i64 z.1, .bool z.2]) (fun z => []) := fun Q Q' h hQ => by
 refine acallM mc_15 [] [] [.t 10, .t 11] Tryz.func35 fun M => ?_
 unfold F_15 at h
 unfold mc_15
 replace h := tY h
 refine tB ?_
 repeat' (first
 | (exact tZ)
 | ((first | refine oblg h ?_ | refine roomG h ?_ | refine fork h ?_ ?_ | refine forkS h ?_ ?_) <;> clear h <;> intro hc h)
 | (obtain ⟨y, hy, h⟩ := h; (first | with_reducible first | have hw := Wq_s.w hy | have hw := Wq_8.w hy | have hw := Wq_13.w hy); replace hw := tY hw; (first | refine M.sC hw ?_ | refine M.sD hw ?_); clear hw hy; refine tB ?_)
 | (refine M.gv1 (ms := mg_50) 36 [35] h ?_ ?_ <;> first
 | (clear h; intro K hK1; unfold mg_50; refine tB ?_)
 | (clear h; intro b h; replace h := tY h; refine tB ?_))
 | (refine M.for1 (b := mc_2r) 21 [3,4,5,6,19,20] [6,5] (fun x => []) (fun x => []) [] h ?_ ?_ ?_ <;> first
 | (clear h; intro k a x Qn K hK2 hkN2 ha2 h hf; have hl := fact_int (factsE_find (n := 20) hf.1 rfl); clear hf; have hkd := kD hkN2; have hkB2 := kB hkN2; have hkI2 := kI (k := k) (by omega); unfold F_2r at h; unfold mc_2r; replace h := tY h; refine tK ha2 hkd hkN2 hkB2 hkI2 ?_)
  |(clear h; intro x K h; replace h := And.left (And.intro h trivial); unfold mc_2r; replace h := tY h; refine tB ?_)
  |(clear h; (try refine tB ?_); exact tU0; done))
 | (simp only [ha2])
 | (refine hK1 _ ?_; exact tU; done)
 | (refine hK2 _ ?_; (try refine tB ?_); refine ⟨_, h, ?_⟩; exact tU0; done)
 | (refine bfork (fun hc => ?_) (fun hc => ?_))
 | (refine tE ?_; (first | rw [M.lok_compU] | rw [M.lokD_compU]); refine tB ?_)
 | (refine tA ?_))
noncomputable def F_3a (d_ : GDirectory) (a_ : GEstate) (content_ : Int) (p_ : Int) (k35 : Int) (a36 : Int) (x34 : Unit) : Option (Fl Unit (Int × Bool)) :=
 (F_15 d_ a_ content_ p_ a36).bind fun y44 => bif y44.2 then some (.ex (a36, true)) else some (.nx ())
noncomputable def F_16 (d_ : GDirectory) (a_ : GEstate) (content_ : Int) (p_ : Int) : Option (Int × Bool) :=
 (F_1v d_ a_).bind fun y23 => (forL (F_3a d_ a_ content_ p_) y23 0 ()).bind fun o => o.elim (fun x45 => some (0, false)) (fun r46 => some r46)
@[irreducible] def mc_3a : MC :=
 (sR [mo (.bin false .lss (.t 18) (.t 17)) 19]
 (.seq (.cond (.t 19)
 .skip
 (.exit 0))
 (.seq (.block 1
 (sR [mo (.iad 1 (.t 16) (.t 18)) 20,
 oL 20 21,
 oV 21 11]
 (sR [mo (.ld (some 2) (.t 4)) 23,
 mo (.ld (some 2) (.t 5)) 24,
 oV 2 25,
 oV 3 26,
 oV 11 27,
 mo (.call (.f 35) [(.t 23),(.t 24),(.t 25),(.t 26),(.t 27)] [] []) 28,
 oV 28 22,
 mo (.ext 0 (.t 22)) 29,
 mo (.ext 1 (.t 22)) 30,
 oV 29 12,
 oV 30 13]
 (sR [oV 13 31]
 (.cond (.t 31)
 (.seq (.note (.gc [11]) (.reg [oV 11 32,
 oV 32 8,
 mo (.mv (.c (.bool true))) 9]))
 .ret)
 .skip)))))
 (.reg [mo (.bin true .add (.t 18) (cI 1)) 33,
 oV 33 18]))))
def mc_16 : MC :=
 (sR [mo (.box (.t 0)) 4,
 mo (.box (.t 1)) 5,
 oC 0 8,
 mo (.mv (.c (.bool false))) 9]
 (.seq (sR [mo (.ld (some 2) (.t 4)) 14,
 mo (.ld (some 2) (.t 5)) 15,
 mo (.call (.f 52) [(.t 14),(.t 15)] [] []) 16,
 mo (.len false (.t 16)) 17,
 oC 0 18]
 (.block 0
 (.loop mc_3a)))
 (sR [oC 0 8,
 mo (.mv (.c (.bool false))) 9]
 .ret)))
theorem Wq_16 {d_ : GDirectory} {a_ : GEstate} {content_ p_ : Int} : Cn Tryz.prog 29 [GDirectory.v d_, GEstate.v a_, .int .i64 content_, .int .i64 p_] [] (F_16 d_ a_ content_ p_) (fun z => .tup [.int .i64 z.1, .bool z.2]) (fun z => []) := fun Q Q' h hQ => by
 refine acallM mc_16 [] [] [.t 8, .t 9] Tryz.func29 fun M => ?_
 unfold F_16 at h
 unfold mc_16
 replace h := tY h
 refine tB ?_
 repeat' (first
 | (exact tZ)
 | ((first | refine oblg h ?_ | refine roomG h ?_ | refine fork h ?_ ?_ | refine forkS h ?_ ?_) <;> clear h <;> intro hc h)
 | (obtain ⟨y, hy, h⟩ := h; (first | with_reducible first | have hw := Wq_1v.w hy | have hw := Wq_15.w hy); replace hw := tY hw; (first | refine M.sC hw ?_ | refine M.sD hw ?_); clear hw hy; refine tB ?_)
 | (refine M.for1 (b := mc_3a) 18 [2,3,4,5,16,17] [5,4] (fun x => []) (fun x => []) [] h ?_ ?_ ?_ <;> first
 | (clear h; intro k a x Qn K hK1 hkN1 ha1 h hf; have hl := fact_int (factsE_find (n := 17) hf.1 rfl); clear hf; have hkd := kD hkN1; have hkB1 := kB hkN1; have hkI1 := kI (k := k) (by omega); unfold F_3a at h; unfold mc_3a; replace h := tY h; refine tK ha1 hkd hkN1 hkB1 hkI1 ?_)
  |(clear h; intro x K h; replace h := And.left (And.intro h trivial); unfold mc_3a; replace h := tY h; refine tB ?_)
  |(clear h; (try refine tB ?_); exact tU0; done))
 | (simp only [ha1])
 | (refine hK1 _ ?_; (try refine tB ?_); refine ⟨_, h, ?_⟩; exact tU0; done)
 | (refine tE ?_; (first | rw [M.lok_compU] | rw [M.lokD_compU]); refine tB ?_)
 | (refine tA ?_))
noncomputable def F_t (d_ : GDirectory) (a_ : GEstate) (content_ : Int) (x26 : Int × (List GExposure)) : Option (Fl (Int × (List GExposure)) (List GExposure)) :=
 bif decide (x26.1 < (d_.Kinds.length : Int)) then jn (α := List GExposure) ((F_16 d_ a_ content_ x26.1).bind fun y34 => bif y34.2 then chk (room (x26.2.length + [(GExposure.mk x26.1 y34.1)].length) 16) (some (x26.2 ++ [(GExposure.mk x26.1 y34.1)])) else some x26.2) fun j32 => chk (in64 (x26.1 + 1)) (some (.nx ((x26.1 + 1), j32))) else some (.ex x26.2)
noncomputable def F_i (d_ : GDirectory) (a_ : GEstate) (content_ : Int) : Option ((List GExposure) × Int) :=
 (F_g d_ a_ content_).bind fun y4 => bif (!decide (y4 = 0)) then some ([], y4) else (loop (F_t d_ a_ content_) ((-1),[])).bind fun r35 => some (r35,0)
@[irreducible] def mc_51 : MC :=
 (.reg [oV 10 25,
 mo (.bin true .add (.t 25) (cI 1)) 26,
 oV 26 10])
@[irreducible] def mc_t : MC :=
 (.seq (sR [oV 10 20,
 oF 0 3 21,
 oL 21 22,
 mo (.len false (.t 22)) 23,
 mo (.bin false .lss (.t 20) (.t 23)) 24]
 (.cond (.t 24)
 .skip
 (.exit 0)))
 (.cut (.block 1
 (sR [mo (.ld (some 2) (.t 3)) 28,
 mo (.ld (some 2) (.t 4)) 29,
 oV 2 30,
 oV 10 31,
 mo (.call (.f 29) [(.t 28),(.t 29),(.t 30),(.t 31)] [] []) 32,
 oV 32 27,
 mo (.ext 0 (.t 27)) 33,
 mo (.ext 1 (.t 27)) 34,
 oV 33 11,
 oV 34 12]
 (sR [oV 12 35]
 (.cond (.t 35)
 (.note (.gc [2,3,4,9,10,11]) (.reg [oV 9 36,
 oV 10 37,
 oV 11 38,
 mo (.build [(.int .i64 0),(.int .i64 0)] [(0,1,(.t 37)), (1,1,(.t 38))]) 39,
 mo (.bslice 2 [(.t 39)]) 40,
 mo (.app 2 16 (.t 36) (.t 40)) 41,
 oV 41 9]))
 .skip))))
 mc_51))
def mc_i : MC :=
 (sR [mo (.box (.t 0)) 3,
 mo (.box (.t 1)) 4,
 mo (.mv (.c (.sl []))) 6,
 oC 0 7]
 (.seq (sR [mo (.ld (some 2) (.t 3)) 13,
 mo (.ld (some 2) (.t 4)) 14,
 oV 2 15,
 mo (.call (.f 28) [(.t 13),(.t 14),(.t 15)] [] []) 16,
 oV 16 8]
 (sR [oV 8 17,
 mo (.bin false .neq (.t 17) (cI 0)) 18]
 (.cond (.t 18)
 (.seq (.note (.gc [8]) (.reg [oV 8 19,
 mo (.mv (.c (.sl []))) 6,
 oV 19 7]))
 .ret)
 .skip)))
 (sR [mo (.mv (.c .nils)) 9]
 (.seq (sR [oC (-1) 10]
 (.block 0
 (.loop mc_t)))
 (sR [oV 9 42,
 oV 42 6,
 oC 0 7]
 .ret)))))
theorem Wq_i {d_ : GDirectory} {a_ : GEstate} {content_ : Int} : Cn Tryz.prog 13 [GDirectory.v d_, GEstate.v a_, .int .i64 content_] [] (F_i d_ a_ content_) (fun z => .tup [.sl (z.1.map GExposure.v), .int .i64 z.2]) (fun z => []) := fun Q Q' h hQ => by
 refine acallM mc_i [.fz 6] [] [.t 6, .t 7] Tryz.func13 fun M => ?_
 unfold F_i at h
 unfold mc_i
 replace h := tY h
 refine tB ?_
 repeat' (first
 | (exact tZ)
 | ((first | refine oblg h ?_ | refine roomG h ?_ | refine fork h ?_ ?_ | refine forkS h ?_ ?_) <;> clear h <;> intro hc h)
 | (obtain ⟨y, hy, h⟩ := h; (first | with_reducible first | have hw := Wq_g.w hy | have hw := Wq_16.w hy); replace hw := tY hw; (first | refine M.sC hw ?_ | refine M.sD hw ?_); clear hw hy; refine tB ?_)
 | (refine M.jn1 (b := mc_51) [2,3,4,10] [4,3] (fun y => [(9, .osl 2009 2 0 y.length)]) (fun y => [.o 2009 (.arr 2 (y.map GExposure.v))]) [.gc [2,3,4,9,10], .acc 9 2009 2] h ?_ ?_ <;> first
 | (clear h; intro Qn K hK1 h; replace h := tY h; refine tB ?_)
  |(clear h; intro y h; unfold mc_51; replace h := tY h; refine tB ?_))
 | (refine M.wh1 (b := mc_t) [2,3,4] [4,3] (fun x => [(9, .osl 2009 2 0 x.2.length), (10, .int .i64 x.1)]) (fun x => [.o 2009 (.arr 2 (x.2.map GExposure.v))]) [.gc [2,3,4,9,10], .acc 9 2009 2] h ?_ ?_ <;> first
 | (clear h; intro x Qn K hK2 h; unfold F_t at h; unfold mc_t; replace h := tY h; refine tB ?_)
  |(clear h; (try refine tB ?_); exact tU0; done))
 | ((first | refine hK1 _ ?_ | refine hK2 _ ?_); (try refine tB ?_); refine ⟨_, h, ?_⟩; exact tU0; done)
 | (refine tE ?_; (first | rw [M.lok_compU] | rw [M.lokD_compU]); refine tB ?_)
 | (refine tA ?_))
noncomputable def F_1w (d_ : GDirectory) (a_ : GEstate) (content_ : Int) (p_ : Int) : Option (Int × Bool) :=
 (F_g d_ a_ content_).bind fun y4 => bif (!decide (y4 = 0)) then some (0, false) else (F_16 d_ a_ content_ p_).bind fun y6 => some (y6.1, y6.2)
def mc_1w : MC :=
 (sR [mo (.box (.t 0)) 4,
 mo (.box (.t 1)) 5,
 oC 0 8,
 mo (.mv (.c (.bool false))) 9]
 (.seq (sR [mo (.ld (some 2) (.t 4)) 10,
 mo (.ld (some 2) (.t 5)) 11,
 oV 2 12,
 mo (.call (.f 28) [(.t 10),(.t 11),(.t 12)] [] []) 13,
 mo (.bin false .neq (.t 13) (cI 0)) 14]
 (.cond (.t 14)
 (sR [oC 0 8,
 mo (.mv (.c (.bool false))) 9]
 .ret)
 .skip))
 (.seq (.note (.gc [2,3,4,5]) (.reg [mo (.ld (some 2) (.t 4)) 15,
 mo (.ld (some 2) (.t 5)) 16,
 oV 2 17,
 oV 3 18,
 mo (.call (.f 29) [(.t 15),(.t 16),(.t 17),(.t 18)] [] []) 19,
 mo (.ext 0 (.t 19)) 20,
 mo (.ext 1 (.t 19)) 21,
 oV 20 8,
 oV 21 9]))
 .ret)))
theorem Wq_1w {d_ : GDirectory} {a_ : GEstate} {content_ p_ : Int} : Cn Tryz.prog 12 [GDirectory.v d_, GEstate.v a_, .int .i64 content_, .int .i64 p_] [] (F_1w d_ a_ content_ p_) (fun z => .tup [.int .i64 z.1, .bool z.2]) (fun z => []) := fun Q Q' h hQ => by
 refine acallM mc_1w [] [] [.t 8, .t 9] Tryz.func12 fun M => ?_
 unfold F_1w at h
 unfold mc_1w
 replace h := tY h
 refine tB ?_
 repeat' (first
 | (exact tZ)
 | ((first | refine oblg h ?_ | refine roomG h ?_ | refine fork h ?_ ?_ | refine forkS h ?_ ?_) <;> clear h <;> intro hc h)
 | (obtain ⟨y, hy, h⟩ := h; (first | with_reducible first | have hw := Wq_g.w hy | have hw := Wq_16.w hy); replace hw := tY hw; (first | refine M.sC hw ?_ | refine M.sD hw ?_); clear hw hy; refine tB ?_)
 | (refine tE ?_; (first | rw [M.lok_compU] | rw [M.lokD_compU]); refine tB ?_)
 | (refine tA ?_))
noncomputable def F_1x (s_ : List Int) : Option (List Int) :=
 amb s_.isEmpty (some []) (chk (room (([] : List Int).length + s_.length) 8) (some (([] : List Int) ++ s_)))
def mc_1x : MC :=
 (sR [mo (.mv (.c .nils)) 2]
 (.seq (sR [oV 0 3,
 mo (.mp (.isn false) [(.t 3)]) 4]
 (.cond (.t 4)
 (sR [mo (.mv (.c .nils)) 2]
 .ret)
 .skip))
 (sR [mo (.bslice 1 []) 5,
 oV 0 6,
 mo (.app 1 8 (.t 5) (.t 6)) 7,
 oV 7 2]
 .ret)))
theorem Wq_1x {s_ : List Int} : Cn Tryz.prog 64 [.sl (s_.map (V.int .i64))] [] (F_1x s_) (fun z => .osl 1900 1 0 z.length) (fun z => [(1900, .arr 1 (z.map (V.int .i64)))]) := fun Q Q' h hQ => by
 refine acallM mc_1x [.acc 2 1900 1] [1900] [.t 2] Tryz.func64 fun M => ?_
 unfold F_1x at h
 unfold mc_1x
 replace h := tY h
 refine tB ?_
 repeat' (first
 | (exact tZ)
 | ((first | refine oblg h ?_ | refine roomG h ?_ | refine fork h ?_ ?_ | refine forkS h ?_ ?_) <;> clear h <;> intro hc h)
 | (refine amb_fork h (fun hp => by simpa using hp) ?_ ?_ <;> first
 | (clear h; intro hc h; rw [M.lok_eq]; replace h := tY h; refine tB ?_)
  |(clear h; intro h; rw [M.lok_eq]; replace h := tY h; refine tB ?_))
 | (refine tE ?_; (first | rw [M.lok_compU] | rw [M.lokD_compU]); refine tB ?_)
 | (refine tA ?_))
noncomputable def F_2s (content_ : Int) (t_ : Int) (k182 : Int) (a183 : GAccess) (x181 : List (List Int)) : Option (List (List Int)) :=
 chk (inb a183.Place x181.length) (bif decide (t_ < a183.Time) then some x181 else grp ((decide (a183.Kind = 5) && decide (a183.Content = content_))) fun b219 => grp ((b219 && (!(decide (0 < ((x181.getD ((a183.Place).toNat) default).length : Int)))))) fun b220 => bif b220 then chk (inb a183.Place x181.length) (some (x181.set ((a183.Place).toNat) [k182])) else grp ((decide (a183.Kind = 6) && decide (a183.Content = content_))) fun b222 => bif b222 then chk (inb a183.Place x181.length) (some (x181.set ((a183.Place).toNat) [])) else grp ((decide (a183.Kind = 7) && (!(decide (0 < ((x181.getD ((a183.Place).toNat) default).length : Int)))))) fun b225 => jn (α := Bool) (bif b225 then chk (inb a183.From x181.length) (some (decide (0 < ((x181.getD ((a183.From).toNat) default).length : Int)))) else some false) fun j226 => bif j226 then chk (inb a183.From x181.length) ((F_1x (x181.getD ((a183.From).toNat) default)).bind fun y227 => chk (room (y227.length + [k182].length) 8) (chk (inb a183.Place x181.length) (some (x181.set ((a183.Place).toNat) (y227 ++ [k182]))))) else some x181)
noncomputable def F_1h (a_ : GEstate) (content_ : Int) (place_ : Int) (t_ : Int) : Option ((List Int) × Bool) :=
 (F_5 a_).bind fun y10 => bif (!decide (y10 = 0)) then some ([], false) else (F_2 content_).bind fun y11 => bif (!y11) then some ([], false) else (F_7 a_ place_).bind fun y12 => bif (!y12) then some ([], false) else chk (roomI a_.Places a_.Places 24) ((foldL (F_2s content_ t_) a_.Events 0 (List.replicate (a_.Places).toNat [])).bind fun x228 => chk (inb place_ x228.length) (chk (inb place_ x228.length) (some (x228.getD ((place_).toNat) default, decide (0 < ((x228.getD ((place_).toNat) default).length : Int))))))
@[irreducible] def mg_52 : List MOp := [gT 55 56 (.fad 5 (.t 12)),
 gT 55 57 (.ld none (.t 56)),
 gT 55 58 (.mv (.t 1)),
 gT 55 59 (.bin false .eql (.t 57) (.t 58)),
 mo (.pick (.t 55) (.t 59) (.c (.bool false))) 60]
@[irreducible] def mg_53 : List MOp := [gT 61 62 (.mv (.t 13)),
 gT 61 63 (.not (.t 62)),
 mo (.pick (.t 61) (.t 63) (.c (.bool false))) 64]
@[irreducible] def mg_54 : List MOp := [gT 75 76 (.fad 5 (.t 12)),
 gT 75 77 (.ld none (.t 76)),
 gT 75 78 (.mv (.t 1)),
 gT 75 79 (.bin false .eql (.t 77) (.t 78)),
 mo (.pick (.t 75) (.t 79) (.c (.bool false))) 80]
@[irreducible] def mg_55 : List MOp := [gT 89 90 (.mv (.t 13)),
 gT 89 91 (.not (.t 90)),
 mo (.pick (.t 89) (.t 91) (.c (.bool false))) 92]
@[irreducible] def mg_56 : List MOp := [gT 93 94 (.mv (.t 10)),
 gT 93 95 (.fad 6 (.t 12)),
 gT 93 96 (.ld none (.t 95)),
 gT 93 97 (.iad 1 (.t 94) (.t 96)),
 gT 93 98 (.ld none (.t 97)),
 gT 93 99 (.len false (.t 98)),
 gT 93 100 (.bin false .gtr (.t 99) (cI 0)),
 mo (.pick (.t 93) (.t 100) (.c (.bool false))) 101]
@[irreducible] def mc_2s : MC :=
 (sR [mo (.bin false .lss (.t 34) (.t 33)) 35]
 (.seq (.cond (.t 35)
 .skip
 (.exit 0))
 (.seq (.block 1
 (sR [oV 34 36,
 mo (.iad 7 (.t 32) (.t 34)) 37,
 mo (.ld (some 7) (.t 37)) 38,
 mo (.alloc [(.int .i64 0),(.int .i64 0),(.int .i64 0),(.int .i64 0),(.int .i64 0),(.int .i64 0),(.int .i64 0)]) 12,
 oV 36 11,
 ⟨.st 7 (.t 12) (.t 38), none, none⟩]
 (sR [oV 10 39,
 oF 2 12 40,
 oL 40 41,
 mo (.iad 1 (.t 39) (.t 41)) 42,
 oL 42 43,
 mo (.len false (.t 43)) 44,
 mo (.bin false .gtr (.t 44) (cI 0)) 45,
 oV 45 13]
 (.block 2
 (.seq (.note (.gc [1,2,3,10,11,12,13,32,33,34,56,57,58,59,62,63,76,77,78,79,90,91,94,95,96,97,98,99,100]) (.reg [oF 0 12 47,
 oL 47 48,
 oV 3 49,
 mo (.bin false .gtr (.t 48) (.t 49)) 50,
 oV 50 46]))
 (.cond (.t 46)
 .skip
 (.seq (.regI [.op (oF 1 12 52),
 .op (oL 52 53),
 .op (mo (.bin false .eql (.t 53) (cI 5)) 54),
 .op (oV 54 55),
 .grp mg_52,
 .op (oV 60 61),
 .grp mg_53,
 .op (oV 64 51)])
 (.cond (.t 51)
 (.note (.gc [1,2,3,10,11,12,32,33,34,56,57,58,59,62,63,76,77,78,79,90,91,94,95,96,97,98,99,100]) (.reg [oV 10 65,
 oF 2 12 66,
 oL 66 67,
 oV 11 68,
 mo (.lsl 1 [(.t 68)]) 69,
 mo (.iad 1 (.t 65) (.t 67)) 70,
 ⟨.st 1 (.t 70) (.t 69), none, none⟩]))
 (.seq (.note (.gc [1,2,3,10,11,12,13,32,33,34,56,57,58,59,62,63,76,77,78,79,90,91,94,95,96,97,98,99,100]) (.regI [.op (oF 1 12 72),
 .op (oL 72 73),
 .op (mo (.bin false .eql (.t 73) (cI 6)) 74),
 .op (oV 74 75),
 .grp mg_54,
 .op (oV 80 71)]))
 (.cond (.t 71)
 (.note (.gc [1,2,3,10,12,32,33,34,56,57,58,59,62,63,76,77,78,79,90,91,94,95,96,97,98,99,100]) (.reg [oV 10 81,
 oF 2 12 82,
 oL 82 83,
 mo (.iad 1 (.t 81) (.t 83)) 84,
 ⟨.st 1 (.t 84) (.c (.sl [])), none, none⟩]))
 (.seq (.regI [.op (oF 1 12 86),
 .op (oL 86 87),
 .op (mo (.bin false .eql (.t 87) (cI 7)) 88),
 .op (oV 88 89),
 .grp mg_55,
 .op (oV 92 93),
 .grp mg_56,
 .op (oV 101 85)])
 (.cond (.t 85)
 (.regD [oV 10 102,
 oF 2 12 103,
 oL 103 104,
 oV 10 105,
 oF 6 12 106,
 oL 106 107,
 mo (.iad 1 (.t 105) (.t 107)) 108,
 oL 108 109,
 mo (.call (.f 64) [(.t 109)] [] [110]) 110,
 oV 11 111,
 mo (.bslice 1 [(.t 111)]) 112,
 mo (.app 1 8 (.t 110) (.t 112)) 113,
 mo (.iad 1 (.t 102) (.t 104)) 114,
 ⟨.mp .uss [(.t 114),(.t 113)], none, none⟩]
 [[],[],[1],[],[],[4],[3,5],[6],[7],[],[9],[8,10,8],[0,2,0,1,2,3,4,5,6,7,8,9,10,11],[12,11,11,0,1,2,3,4,5,6,7,8,9,10,11]]
 [[],[],[1],[],[],[4],[3,4,5],[3,4,5,6],[3,4,5,6,7],[],[9],[3,4,5,6,7,8,9,10,1000002],[0,1,2,3,4,5,6,7,8,9,10,11],[0,1,2,3,4,5,6,7,8,9,10,11,12]])
 .skip))))))))))))
 (.reg [mo (.bin true .add (.t 34) (cI 1)) 115,
 oV 115 34]))))
def mc_1h : MC :=
 (sR [mo (.box (.t 0)) 4,
 mo (.mv (.c (.sl []))) 8,
 mo (.mv (.c (.bool false))) 9]
 (.seq (sR [mo (.ld (some 2) (.t 4)) 14,
 mo (.call (.f 62) [(.t 14)] [] []) 15,
 mo (.bin false .neq (.t 15) (cI 0)) 16,
 oV 16 17,
 gF 17 18 (.mv (.t 1)),
 gF 17 19 (.call (.f 51) [(.t 18)] [] []),
 gF 17 20 (.not (.t 19)),
 mo (.pick (.t 17) (.c (.bool true)) (.t 20)) 21,
 oV 21 22,
 gF 22 23 (.ld (some 2) (.t 4)),
 gF 22 24 (.mv (.t 2)),
 gF 22 25 (.call (.f 63) [(.t 23),(.t 24)] [] []),
 gF 22 26 (.not (.t 25)),
 mo (.pick (.t 22) (.c (.bool true)) (.t 26)) 27]
 (.cond (.t 27)
 (sR [mo (.mv (.c (.sl []))) 8,
 mo (.mv (.c (.bool false))) 9]
 .ret)
 .skip))
 (.seq (.note (.gc [1,2,3,4,56,57,58,59,62,63,76,77,78,79,90,91,94,95,96,97,98,99,100]) (.reg [oF 0 4 28,
 oL 28 29,
 mo (.mksl 1 24 (.sl []) (.t 29) (.t 29)) 30,
 oV 30 10]))
 (.seq (sR [oF 1 4 31,
 oL 31 32,
 mo (.len false (.t 32)) 33,
 oC 0 34]
 (.block 0
 (.loop mc_2s)))
 (.seq (.regD [oV 10 116,
 oV 2 117,
 mo (.iad 1 (.t 116) (.t 117)) 118,
 oL 118 119,
 oV 10 120,
 oV 2 121,
 mo (.iad 1 (.t 120) (.t 121)) 122,
 oL 122 123,
 mo (.len false (.t 123)) 124,
 mo (.bin false .gtr (.t 124) (cI 0)) 125,
 oV 119 8,
 oV 125 9]
 [[],[],[0,1],[2],[],[],[4,5],[6],[7],[8],[3,0,1,2,3],[9,10,0,1,2,3,4,5,6,7,8,9,10]]
 [[],[],[0,1],[0,1,2],[],[],[4,5],[4,5,6],[4,5,6,7],[4,5,6,7,8],[0,1,2,3],[0,1,2,3,4,5,6,7,8,9,10]])
 .ret)))))
theorem Wq_1h {a_ : GEstate} {content_ place_ t_ : Int} : Cn Tryz.prog 41 [GEstate.v a_, .int .i64 content_, .int .i64 place_, .int .i64 t_] [] (F_1h a_ content_ place_ t_) (fun z => .tup [.sl (z.1.map (V.int .i64)), .bool z.2]) (fun z => []) := fun Q Q' h hQ => by
 refine acallM mc_1h [.fz 8] [] [.t 8, .t 9] Tryz.func41 fun M => ?_
 unfold F_1h at h
 unfold mc_1h
 replace h := tY h
 refine tB ?_
 repeat' (first
 | (exact tZ)
 | ((first | refine oblg h ?_ | refine roomG h ?_ | refine fork h ?_ ?_ | refine forkS h ?_ ?_) <;> clear h <;> intro hc h)
 | (obtain ⟨y, hy, h⟩ := h; (first | (with_reducible first | have hw := Wq_5.w hy | have hw := Wq_2.w hy | have hw := Wq_7.w hy) | have hw := acall_swe 1900 110 (Wq_1x.w hy)); replace hw := tY hw; (first | refine M.sC hw ?_ | refine M.sD hw ?_); clear hw hy; refine tB ?_)
 | (refine M.gj1 (ms := mg_56) [1,2,3,10,11,12,32,33,34] [12,30] (fun y => [(101, .bool y)]) (fun y => []) h ?_ ?_ <;> first
 | (clear h; intro Qn K hK1 h; unfold mg_56; replace h := tY h; refine tB ?_)
  |(clear h; intro y h; replace h := tY h; refine tB ?_))
 | (refine M.gv1 (ms := mg_55) 92 [90,91] h ?_ ?_ <;> first
 | (clear h; intro K hK2; unfold mg_55; refine tB ?_)
 | (clear h; intro b h; replace h := tY h; refine tB ?_))
 | (refine M.gv1 (ms := mg_54) 80 [76,77,78,79] h ?_ ?_ <;> first
 | (clear h; intro K hK3; unfold mg_54; refine tB ?_)
 | (clear h; intro b h; replace h := tY h; refine tB ?_))
 | (refine M.gv1 (ms := mg_53) 64 [62,63] h ?_ ?_ <;> first
 | (clear h; intro K hK4; unfold mg_53; refine tB ?_)
 | (clear h; intro b h; replace h := tY h; refine tB ?_))
 | (refine M.gv1 (ms := mg_52) 60 [56,57,58,59] h ?_ ?_ <;> first
 | (clear h; intro K hK5; unfold mg_52; refine tB ?_)
 | (clear h; intro b h; replace h := tY h; refine tB ?_))
 | (refine M.fold1 (b := mc_2s) 34 [1,2,3,32,33] [] (fun x => [(10, .osl 30 1 0 x.length)]) (fun x => [.o 30 (.arr 1 (x.map (slV (V.int .i64))))]) [] h ?_ ?_ ?_ <;> first
 | (clear h; intro k a x Qn K hK6 hkN6 ha6 h hf; have hl := fact_int (factsE_find (n := 33) hf.1 rfl); clear hf; have hkd := kD hkN6; have hkB6 := kB hkN6; have hkI6 := kI (k := k) (by omega); unfold F_2s at h; unfold mc_2s; replace h := tY h; refine tK ha6 hkd hkN6 hkB6 hkI6 ?_)
  |(clear h; intro x K h; replace h := And.left (And.intro h trivial); unfold mc_2s; replace h := tY h; refine tB ?_)
  |(clear h; (try refine tB ?_); exact tU0; done))
 | (simp only [ha6])
 | ((first | refine hK1 _ ?_ | refine hK6 _ ?_); (try refine tB ?_); refine ⟨_, h, ?_⟩; exact tU0; done)
 | ((first | refine hK2 _ ?_ | refine hK3 _ ?_ | refine hK4 _ ?_ | refine hK5 _ ?_); exact tU; done)
 | (refine bfork (fun hc => ?_) (fun hc => ?_))
 | (refine tE ?_; (first | rw [M.lok_compU] | rw [M.lokD_compU]); refine tB ?_)
 | (refine ⟨_, getE_mapset (by first | exact inb_toNat (by assumption) | exact inb_nat (by assumption)), ?_⟩; (first | rw [M.lok_compU] | rw [M.lokD_compU] | (simp only [V.cells]; first | rw [M.lok_comp] | rw [M.lokD_comp])); refine tB ?_)
 | (refine tA ?_))
def F_u (a_ : GEstate) (place_ : Int) (principal_ : Int) (t_ : Int) : Option (Int × Bool) :=
 (F_1 a_ place_).bind fun y4 => bif (!y4) then some (0, false) else (F_12 a_ place_ t_).bind fun y6 => some (((aget principal_ y6).getD 0), (aget principal_ y6).isSome)
def mc_u : MC :=
 (sR [mo (.box (.t 0)) 4,
 oC 0 8,
 mo (.mv (.c (.bool false))) 9]
 (.seq (sR [mo (.ld (some 2) (.t 4)) 12,
 oV 1 13,
 mo (.call (.f 68) [(.t 12),(.t 13)] [] []) 14,
 mo (.not (.t 14)) 15]
 (.cond (.t 15)
 (sR [oC 0 8,
 mo (.mv (.c (.bool false))) 9]
 .ret)
 .skip))
 (sR [mo (.ld (some 2) (.t 4)) 17,
 oV 1 18,
 oV 3 19,
 mo (.call (.f 93) [(.t 17),(.t 18),(.t 19)] [] []) 20,
 oV 2 21,
 mo (.mp (.lku (.int .i64) true (.int .i64 0)) [(.t 20),(.t 21)]) 22,
 oV 22 16,
 mo (.ext 0 (.t 16)) 23,
 mo (.ext 1 (.t 16)) 24,
 oV 23 10,
 oV 24 11]
 (.seq (.note (.gc [10,11]) (.reg [oV 10 25,
 oV 11 26,
 oV 25 8,
 oV 26 9]))
 .ret))))
theorem Wq_u {a_ : GEstate} {place_ principal_ t_ : Int} : Cn Tryz.prog 66 [GEstate.v a_, .int .i64 place_, .int .i64 principal_, .int .i64 t_] [] (F_u a_ place_ principal_ t_) (fun z => .tup [.int .i64 z.1, .bool z.2]) (fun z => []) := fun Q Q' h hQ => by
 refine acallM mc_u [] [] [.t 8, .t 9] Tryz.func66 fun M => ?_
 unfold F_u at h
 unfold mc_u
 replace h := tY h
 refine tB ?_
 repeat' (first
 | (exact tZ)
 | ((first | refine oblg h ?_ | refine roomG h ?_ | refine fork h ?_ ?_ | refine forkS h ?_ ?_) <;> clear h <;> intro hc h)
 | (obtain ⟨y, hy, h⟩ := h; (first | with_reducible first | have hw := Wq_1.w hy | have hw := Wq_12.w hy); replace hw := tY hw; (first | refine M.sC hw ?_ | refine M.sD hw ?_); clear hw hy; refine tB ?_)
 | (refine tE ?_; (first | rw [M.lok_compU] | rw [M.lokD_compU]); refine tB ?_)
 | (refine tA ?_))
noncomputable def F_1y (d_ : GDirectory) (p_ : Int) (g_ : Int) (t_ : Int) : Option Bool :=
 (F_2o d_ p_ t_).bind fun y3 => (F_p y3 g_).bind fun y4 => some y4
def mc_1y : MC :=
 (sR [mo (.box (.t 0)) 4,
 mo (.mv (.c (.bool false))) 8]
 (sR [mo (.ld (some 2) (.t 4)) 9,
 oV 1 10,
 oV 3 11,
 mo (.call (.f 114) [(.t 9),(.t 10),(.t 11)] [] []) 12,
 oV 2 13,
 mo (.call (.f 92) [(.t 12),(.t 13)] [] []) 14,
 oV 14 8]
 .ret))
theorem Wq_1y {d_ : GDirectory} {p_ g_ t_ : Int} : Cn Tryz.prog 94 [GDirectory.v d_, .int .i64 p_, .int .i64 g_, .int .i64 t_] [] (F_1y d_ p_ g_ t_) (fun z => .bool z) (fun z => []) := fun Q Q' h hQ => by
 refine acallM mc_1y [] [] [.t 8] Tryz.func94 fun M => ?_
 unfold F_1y at h
 unfold mc_1y
 replace h := tY h
 refine tB ?_
 repeat' (first
 | (exact tZ)
 | ((first | refine oblg h ?_ | refine roomG h ?_ | refine fork h ?_ ?_ | refine forkS h ?_ ?_) <;> clear h <;> intro hc h)
 | (obtain ⟨y, hy, h⟩ := h; (first | with_reducible first | have hw := Wq_2o.w hy | have hw := Wq_p.w hy); replace hw := tY hw; (first | refine M.sC hw ?_ | refine M.sD hw ?_); clear hw hy; refine tB ?_)
 | (refine tE ?_; (first | rw [M.lok_compU] | rw [M.lokD_compU]); refine tB ?_)
 | (refine tA ?_))
noncomputable def F_2t (k359 : Int) (a360 : Bool) (x358 : (List Int) × (List Int)) : Option ((List Int) × (List Int)) :=
 jn (α := Bool) (bif a360 then chk (inb k359 x358.2.length) (some (decide (x358.2.getD ((k359).toNat) default < 0))) else some false) fun j368 => bif j368 then chk (inb 0 x358.1.length) (chk (room (x358.1.length + [k359].length) 8) (chk (inb k359 x358.2.length) (some ((x358.1 ++ [k359]), x358.2.set ((k359).toNat) (x358.1.getD 0 default))))) else some (x358.1, x358.2)
noncomputable def F_3b (y6 : List (List Bool)) (x265 : (List Int) × (List Int)) : Option (Fl ((List Int) × (List Int)) (List Int)) :=
 bif decide (0 < (x265.1.length : Int)) then chk (inb 0 x265.1.length) (chk (inb (x265.1.getD 0 default) y6.length) ((foldL F_2t (y6.getD (x265.1.getD 0 default).toNat default) 0 (x265.1, x265.2)).bind fun x369 => chk (inc 1 (x369.1.length : Int) x369.1.length) (some (.nx ((x369.1.drop 1).take (x369.1.length - 1), x369.2))))) else some (.ex x265.2)
noncomputable def F_3c (p_ : Int) (r370 : List Int) (x382 : List Int) : Option (Fl (List Int) (List Int)) :=
 chk (inb 0 x382.length) (bif (!decide (x382.getD 0 default = p_)) then chk (inb 0 x382.length) (chk (inb (x382.getD 0 default) r370.length) ((insI x382 [r370.getD ((x382.getD 0 default).toNat) default]).bind fun y384 => some (.nx y384))) else some (.ex x382))
noncomputable def F_1z (d_ : GDirectory) (p_ : Int) (g_ : Int) (t_ : Int) : Option ((List Int) × Bool) :=
 (F_1y d_ p_ g_ t_).bind fun y4 => bif (!y4) then some ([], false) else (atF d_.Kinds.length (d_.Events.map fun e => (e.Time, e.Kind, e.Principal, e.Group)) t_).bind fun y6 => (repI [(-1)] (y6.length : Int)).bind fun y8 => chk (inb p_ y8.length) ((loop (F_3b y6) ([p_], y8.set ((p_).toNat) p_)).bind fun r370 => (loop (F_3c p_ r370) [g_]).bind fun r385 => some (r385, true))
@[irreducible] def mg_57 : List MOp := [gT 53 54 (.mv (.t 11)),
 gT 53 55 (.mv (.t 13)),
 gT 53 56 (.iad 1 (.t 54) (.t 55)),
 gT 53 57 (.ld none (.t 56)),
 gT 53 58 (.bin false .lss (.t 57) (cI 0)),
 mo (.pick (.t 53) (.t 58) (.c (.bool false))) 59]
@[irreducible] def mc_2t : MC :=
 (sR [mo (.bin false .lss (.t 47) (.t 46)) 48]
 (.seq (.cond (.t 48)
 .skip
 (.exit 2))
 (.seq (.block 3
 (sR [oV 47 49,
 mo (.iad 1 (.t 45) (.t 47)) 50,
 oL 50 51,
 oV 49 13,
 oV 51 14]
 (.seq (.regI [.op (oV 14 52),
 .op (oV 52 53),
 .grp mg_57])
 (.cond (.t 59)
 (.regD [oV 11 60,
 oV 13 61,
 oV 12 62,
 mo (.iad 1 (.t 62) (cI 0)) 63,
 oL 63 64,
 oV 12 65,
 oV 13 66,
 mo (.bslice 1 [(.t 66)]) 67,
 mo (.app 1 8 (.t 65) (.t 67)) 68,
 mo (.iad 1 (.t 60) (.t 61)) 69,
 ⟨.st 1 (.t 69) (.t 64), none, none⟩,
 oV 68 12]
 [[],[],[],[2],[3],[],[],[6],[5,7],[0,1,0,1,2,3,4,8],[9,4,8,0,1,2,3,4,8],[8,10,0,1,2,3,4,5,6,7,8,9,10]]
 [[],[],[],[2],[2,3],[],[],[6],[5,6,7,1000004],[0,1,2,3,4,5,6,7,8],[0,1,2,3,4,5,6,7,8,9],[0,1,2,3,4,5,6,7,8,9,10]])
 .skip))))
 (.reg [mo (.bin true .add (.t 47) (cI 1)) 70,
 oV 70 47]))))
@[irreducible] def mc_3b : MC :=
 (.seq (sR [oV 12 35,
 mo (.len false (.t 35)) 36,
 mo (.bin false .gtr (.t 36) (cI 0)) 37]
 (.cond (.t 37)
 .skip
 (.exit 0)))
 (.seq (.block 1
 (sR [oV 10 40,
 oV 12 41,
 mo (.iad 1 (.t 41) (cI 0)) 42,
 oL 42 43,
 mo (.iad 1 (.t 40) (.t 43)) 44,
 oL 44 45,
 mo (.len false (.t 45)) 46,
 oC 0 47]
 (.block 2
 (.loop mc_2t))))
 (.reg [oV 12 38,
 mo (.slc 1 (.t 38) (some (cI 1)) none) 39,
 oV 39 12])))
@[irreducible] def mc_3c : MC :=
 (.seq (sR [oV 15 73,
 mo (.iad 1 (.t 73) (cI 0)) 74,
 oL 74 75,
 oV 1 76,
 mo (.bin false .neq (.t 75) (.t 76)) 77]
 (.cond (.t 77)
 .skip
 (.exit 4)))
 (.block 5
 (.reg [oV 15 78,
 oV 11 79,
 oV 15 80,
 mo (.iad 1 (.t 80) (cI 0)) 81,
 oL 81 82,
 mo (.iad 1 (.t 79) (.t 82)) 83,
 oL 83 84,
 mo (.bslice 1 [(.t 84)] true) 85,
 mo (.call (.f 97) [(.t 78), (cI 0),(.t 85)] [2015,85] [86]) 86,
 oV 86 15])))
def mc_1z : MC :=
 (sR [mo (.box (.t 0)) 4,
 mo (.mv (.c (.sl []))) 8,
 mo (.mv (.c (.bool false))) 9]
 (.seq (sR [mo (.ld (some 2) (.t 4)) 16,
 oV 1 17,
 oV 2 18,
 oV 3 19,
 mo (.call (.f 94) [(.t 16),(.t 17),(.t 18),(.t 19)] [] []) 20,
 mo (.not (.t 20)) 21]
 (.cond (.t 21)
 (sR [mo (.mv (.c (.sl []))) 8,
 mo (.mv (.c (.bool false))) 9]
 .ret)
 .skip))
 (.seq (.note (.gc [1,2,3,4,54,55,56,57,58]) (.reg [mo (.ld (some 2) (.t 4)) 22,
 oV 3 23,
 mo (.call (.f 95) [(.t 22),(.t 23)] [] []) 24,
 oV 24 10]))
 (sR [mo (.lsl 1 [(cI (-1))]) 25,
 oV 10 26,
 mo (.len false (.t 26)) 27,
 mo (.call (.f 96) [(.t 25),(.t 27)] [] [28]) 28,
 oV 28 11]
 (.seq (.note (.gc [1,2,10,11,54,55,56,57,58]) (.reg [oV 11 29,
 oV 1 30,
 oV 1 31,
 mo (.iad 1 (.t 29) (.t 30)) 32,
 ⟨.st 1 (.t 32) (.t 31), none, none⟩]))
 (.seq (sR [oV 1 33,
 mo (.bslice 1 [(.t 33)]) 34,
 oV 34 12]
 (.block 0
 (.loop mc_3b)))
 (sR [oV 2 71,
 mo (.bslice 1 [(.t 71)]) 72,
 oV 72 15]
 (.seq (.block 4
 (.loop mc_3c))
 (sR [oV 15 87,
 oV 87 8,
 mo (.mv (.c (.bool true))) 9]
 .ret)))))))))
theorem Wq_1z {d_ : GDirectory} {p_ g_ t_ : Int} : Cn Tryz.prog 67 [GDirectory.v d_, .int .i64 p_, .int .i64 g_, .int .i64 t_] [] (F_1z d_ p_ g_ t_) (fun z => .tup [.sl (z.1.map (V.int .i64)), .bool z.2]) (fun z => []) := fun Q Q' h hQ => by
 refine acallM mc_1z [.fz 8] [] [.t 8, .t 9] Tryz.func67 fun M => ?_
 unfold F_1z at h
 unfold mc_1z
 replace h := tY h
 refine tB ?_
 repeat' (first
 | (exact tZ)
 | ((first | refine oblg h ?_ | refine roomG h ?_ | refine fork h ?_ ?_ | refine forkS h ?_ ?_) <;> clear h <;> intro hc h)
 | (obtain ⟨y, hy, h⟩ := h; have hw := acall_swe 1900 86 (acall_swe 1001 85 (acall_swe 1000 72 (W_7r hy))); replace hw := tY hw; (first | refine M.sC hw ?_ | refine M.sD hw ?_); clear hw hy; refine tB ?_)
 | (obtain ⟨y, hy, h⟩ := h; have hw := acall_swe 1900 86 (acall_swe 1001 85 (acall_swe 1000 2015 (W_7r hy))); replace hw := tY hw; (first | refine M.sC hw ?_ | refine M.sD hw ?_); clear hw hy; refine tB ?_)
 | (obtain ⟨y, hy, h⟩ := h; (first | (with_reducible first | have hw := Wq_1y.w hy) | have hw := W_at (f := GMember.v) (e4 := fun e => (e.Time, e.Kind, e.Principal, e.Group)) (fun _ => rfl) hy | have hw := acall_swe 1900 28 (W_7s hy)); replace hw := tY hw; (first | refine M.sC hw ?_ | refine M.sD hw ?_); clear hw hy; refine tB ?_)
 | (refine M.gj1 (ms := mg_57) [1,2,10,11,12,13,45,46,47] [2012,28] (fun y => [(59, .bool y)]) (fun y => []) h ?_ ?_ <;> first
 | (clear h; intro Qn K hK1 h; unfold mg_57; replace h := tY h; refine tB ?_)
  |(clear h; intro y h; replace h := tY h; refine tB ?_))
 | (refine M.fold1 (b := mc_2t) 47 [1,2,10,45,46] [] (fun x => [(11, .osl 28 1 0 x.2.length), (12, .osl 2012 1 0 x.1.length)]) (fun x => [.o 2012 (.arr 1 (x.1.map (V.int .i64))), .o 28 (.arr 1 (x.2.map (V.int .i64)))]) [.gc [1,2,10,11,12,45,46,47], .acc 12 2012 1] h ?_ ?_ ?_ <;> first
 | (clear h; intro k a x Qn K hK2 hkN2 ha2 h hf; have hl := fact_int (factsE_find (n := 46) hf.1 rfl); clear hf; have hkd := kD hkN2; have hkB2 := kB hkN2; have hkI2 := kI (k := k) (by omega); unfold F_2t at h; unfold mc_2t; replace h := tY h; refine tK ha2 hkd hkN2 hkB2 hkI2 ?_)
  |(clear h; intro x K h; replace h := And.left (And.intro h trivial); unfold mc_2t; replace h := tY h; refine tB ?_)
  |(clear h; (try refine tB ?_); exact tU0; done))
 | (refine M.wh1 (b := mc_3b) [1,2,10] [] (fun x => [(11, .osl 28 1 0 x.2.length), (12, .osl 2012 1 0 x.1.length)]) (fun x => [.o 2012 (.arr 1 (x.1.map (V.int .i64))), .o 28 (.arr 1 (x.2.map (V.int .i64)))]) [.gc [1,2,10,11,12], .trim 12, .acc 12 2012 1] h ?_ ?_ <;> first
 | (clear h; intro x Qn K hK3 h; unfold F_3b at h; unfold mc_3b; replace h := tY h; refine tB ?_)
  |(clear h; (try refine tB ?_); exact tU0; done))
 | (refine M.wh1 (b := mc_3c) [1,11] [28] (fun x => [(15, .osl 2015 1 0 x.length)]) (fun x => [.o 2015 (.arr 1 (x.map (V.int .i64)))]) [.gc [1,11,15], .acc 15 2015 1] h ?_ ?_ <;> first
 | (clear h; intro x Qn K hK4 h; unfold F_3c at h; unfold mc_3c; replace h := tY h; refine tB ?_)
  |(clear h; (try refine tB ?_); exact tU0; done))
 | (simp only [ha2])
 | ((first | refine hK1 _ ?_ | refine hK2 _ ?_ | refine hK3 _ ?_ | refine hK4 _ ?_); (try refine tB ?_); refine ⟨_, h, ?_⟩; exact tU0; done)
 | (refine tE ?_; (first | rw [M.lok_compU] | rw [M.lokD_compU]); refine tB ?_)
 | (refine ⟨_, getE_mapset (by first | exact inb_toNat (by assumption) | exact inb_nat (by assumption)), ?_⟩; (first | rw [M.lok_compU] | rw [M.lokD_compU] | (simp only [V.cells]; first | rw [M.lok_comp] | rw [M.lokD_comp])); refine tB ?_)
 | (refine tA ?_))
noncomputable def F_17 (d_ : GDirectory) (a_ : GEstate) (p_ : Int) (place_ : Int) (t_ : Int) : Option (GReading × Bool) :=
 (F_13 d_ a_ p_ place_ t_).bind fun y4 => bif (!y4) then some ((GReading.mk 0 0 0 0 []), false) else (F_8 a_ place_ t_).bind fun y8 => bif y8.2 then some ((GReading.mk place_ t_ y8.1 (-1) []), true) else (F_q d_ a_ p_ place_ t_).bind fun y10 => (F_u a_ place_ y10.1 t_).bind fun y12 => jn (α := GReading) (bif (!decide (y10.1 = p_)) then (F_1z d_ p_ y10.1 t_).bind fun y15 => some (GReading.mk place_ t_ (-1) y12.1 y15.1) else some (GReading.mk place_ t_ (-1) y12.1 [p_])) fun j14 => some (j14, true)
@[irreducible] def mc_58 : MC :=
 (sR [mo (.ld (some 5) (.t 16)) 72,
 ⟨.st 5 (.t 10) (.t 72), none, none⟩,
 mo (.mv (.c (.bool true))) 11]
 .ret)
def mc_17 : MC :=
 (sR [mo (.box (.t 0)) 5,
 mo (.box (.t 1)) 6,
 mo (.alloc [(.int .i64 0),(.int .i64 0),(.int .i64 0),(.int .i64 0),(.sl [])]) 10,
 mo (.mv (.c (.bool false))) 11]
 (.seq (sR [mo (.ld (some 2) (.t 5)) 17,
 mo (.ld (some 2) (.t 6)) 18,
 oV 2 19,
 oV 3 20,
 oV 4 21,
 mo (.call (.f 61) [(.t 17),(.t 18),(.t 19),(.t 20),(.t 21)] [] []) 22,
 mo (.not (.t 22)) 23]
 (.cond (.t 23)
 (.seq (.note (.gc [10]) (.reg [mo (.build [(.int .i64 0),(.int .i64 0),(.int .i64 0),(.int .i64 0),(.sl [])] []) 24,
 ⟨.st 5 (.t 10) (.t 24), none, none⟩,
 mo (.mv (.c (.bool false))) 11]))
 .ret)
 .skip))
 (.seq (.seq (.note (.gc [2,3,4,5,6,10]) (.reg [mo (.ld (some 2) (.t 6)) 26,
 oV 3 27,
 oV 4 28,
 mo (.call (.f 43) [(.t 26),(.t 27),(.t 28)] [] []) 29,
 oV 29 25,
 mo (.ext 0 (.t 25)) 30,
 mo (.ext 1 (.t 25)) 31,
 oV 30 12,
 oV 31 13]))
 (sR [oV 13 32]
 (.cond (.t 32)
 (.seq (.note (.gc [3,4,10,12]) (.reg [oV 3 33,
 oV 4 34,
 oV 12 35,
 mo (.build [(.int .i64 0),(.int .i64 0),(.int .i64 0),(.int .i64 0),(.sl [])] [(0,1,(.t 33)), (1,1,(.t 34)), (2,1,(.t 35)), (3,1, (cI (-1)))]) 36,
 ⟨.st 5 (.t 10) (.t 36), none, none⟩,
 mo (.mv (.c (.bool true))) 11]))
 .ret)
 .skip)))
 (.seq (.note (.gc [2,3,4,5,6,10]) (.reg [mo (.ld (some 2) (.t 5)) 38,
 mo (.ld (some 2) (.t 6)) 39,
 oV 2 40,
 oV 3 41,
 oV 4 42,
 mo (.call (.f 65) [(.t 38),(.t 39),(.t 40),(.t 41),(.t 42)] [] []) 43,
 oV 43 37,
 mo (.ext 0 (.t 37)) 44,
 mo (.ext 1 (.t 37)) 45,
 oV 44 14,
 oV 45 15]))
 (.seq (.note (.gc [2,3,4,5,6,10,14]) (.reg [oV 3 46,
 oV 4 47,
 oV 2 48,
 mo (.bslice 1 [(.t 48)]) 49,
 mo (.build [(.int .i64 0),(.int .i64 0),(.int .i64 0),(.int .i64 0),(.sl [])] [(0,1,(.t 46)), (1,1,(.t 47)), (2,1, (cI (-1))), (4,1,(.t 49))]) 50,
 mo (.alloc [(.int .i64 0),(.int .i64 0),(.int .i64 0),(.int .i64 0),(.sl [])]) 16,
 ⟨.st 5 (.t 16) (.t 50), none, none⟩]))
 (sR [mo (.ld (some 2) (.t 6)) 52,
 oV 3 53,
 oV 14 54,
 oV 4 55,
 mo (.call (.f 66) [(.t 52),(.t 53),(.t 54),(.t 55)] [] []) 56,
 oV 56 51,
 mo (.ext 0 (.t 51)) 57,
 mo (.ext 1 (.t 51)) 58,
 oF 3 16 59,
 ⟨.st 1 (.t 59) (.t 57), none, none⟩]
 (.cut (.seq (.note (.gc [2,4,5,10,14,16]) (.reg [oV 14 60,
 oV 2 61,
 mo (.bin false .neq (.t 60) (.t 61)) 62]))
 (.cond (.t 62)
 (.reg [mo (.ld (some 2) (.t 5)) 64,
 oV 2 65,
 oV 14 66,
 oV 4 67,
 mo (.call (.f 67) [(.t 64),(.t 65),(.t 66),(.t 67)] [] []) 68,
 oV 68 63,
 mo (.ext 0 (.t 63)) 69,
 mo (.ext 1 (.t 63)) 70,
 oF 4 16 71,
 ⟨.st 1 (.t 71) (.t 69), none, none⟩])
 .skip))
 mc_58)))))))
theorem Wq_17 {d_ : GDirectory} {a_ : GEstate} {p_ place_ t_ : Int} : Cn Tryz.prog 42 [GDirectory.v d_, GEstate.v a_, .int .i64 p_, .int .i64 place_, .int .i64 t_] [] (F_17 d_ a_ p_ place_ t_) (fun z => .tup [GReading.v z.1, .bool z.2]) (fun z => []) := fun Q Q' h hQ => by
 refine acallM mc_17 [.fzc 10] [] [.c 10 (some 5), .t 11] Tryz.func42 fun M => ?_
 unfold F_17 at h
 unfold mc_17
 replace h := tY h
 refine tB ?_
 repeat' (first
 | (exact tZ)
 | ((first | refine oblg h ?_ | refine roomG h ?_ | refine fork h ?_ ?_ | refine forkS h ?_ ?_) <;> clear h <;> intro hc h)
 | (obtain ⟨y, hy, h⟩ := h; (first | with_reducible first | have hw := Wq_13.w hy | have hw := Wq_8.w hy | have hw := Wq_q.w hy | have hw := Wq_u.w hy | have hw := Wq_1z.w hy); replace hw := tY hw; (first | refine M.sC hw ?_ | refine M.sD hw ?_); clear hw hy; refine tB ?_)
 | (refine M.jn1 (b := mc_58) [10,16] [10] (fun y => []) (fun y => [.o 16 (.cells [.int .i64 y.Place, .int .i64 y.Time, .int .i64 y.Link, .int .i64 y.Grant, .sl (y.Chain.map (V.int .i64))])]) [.fzc 16] h ?_ ?_ <;> first
 | (clear h; intro Qn K hK1 h; replace h := tY h; refine tB ?_)
  |(clear h; intro y h; unfold mc_58; replace h := tY h; refine tB ?_))
 | (refine hK1 _ ?_; (try refine tB ?_); refine ⟨_, h, ?_⟩; exact tU0; done)
 | (refine tE ?_; (first | rw [M.lok_compU] | rw [M.lokD_compU]); refine tB ?_)
 | (refine tA ?_))
noncomputable def F_c (d_ : GDirectory) (a_ : GEstate) (content_ : Int) (p_ : Int) : Option (GLeak × Bool) :=
 (F_1w d_ a_ content_ p_).bind fun y2 => bif (!y2.2) then some ((GLeak.mk [] (GReading.mk 0 0 0 0 [])), false) else (F_15 d_ a_ content_ p_ y2.1).bind fun y4 => (F_1h a_ content_ y4.1 y2.1).bind fun y6 => bif (!decide (p_ = (-1))) then (F_17 d_ a_ p_ y4.1 y2.1).bind fun y10 => some ((GLeak.mk y6.1 y10.1), true) else (F_8 a_ y4.1 y2.1).bind fun y12 => some ((GLeak.mk y6.1 (GReading.mk y4.1 y2.1 y12.1 (-1) [])), true)
def mc_c : MC :=
 (sR [mo (.box (.t 0)) 4,
 mo (.box (.t 1)) 5,
 mo (.alloc [(.sl []),(.int .i64 0),(.int .i64 0),(.int .i64 0),(.int .i64 0),(.sl [])]) 8,
 mo (.mv (.c (.bool false))) 9]
 (sR [mo (.ld (some 2) (.t 4)) 21,
 mo (.ld (some 2) (.t 5)) 22,
 oV 2 23,
 oV 3 24,
 mo (.call (.f 12) [(.t 21),(.t 22),(.t 23),(.t 24)] [] []) 25,
 oV 25 20,
 mo (.ext 0 (.t 20)) 26,
 mo (.ext 1 (.t 20)) 27,
 oV 26 10,
 oV 27 11]
 (.seq (sR [oV 11 28,
 mo (.not (.t 28)) 29]
 (.cond (.t 29)
 (.seq (.note (.gc [8]) (.reg [mo (.build [(.sl []),(.int .i64 0),(.int .i64 0),(.int .i64 0),(.int .i64 0),(.sl [])] []) 30,
 ⟨.st 6 (.t 8) (.t 30), none, none⟩,
 mo (.mv (.c (.bool false))) 9]))
 .ret)
 .skip))
 (.seq (.note (.gc [2,3,4,5,8,10]) (.reg [mo (.ld (some 2) (.t 4)) 32,
 mo (.ld (some 2) (.t 5)) 33,
 oV 2 34,
 oV 3 35,
 oV 10 36,
 mo (.call (.f 35) [(.t 32),(.t 33),(.t 34),(.t 35),(.t 36)] [] []) 37,
 oV 37 31,
 mo (.ext 0 (.t 31)) 38,
 mo (.ext 1 (.t 31)) 39,
 oV 38 12,
 oV 39 13]))
 (.seq (.note (.gc [2,3,4,5,8,10,12]) (.reg [mo (.ld (some 2) (.t 5)) 41,
 oV 2 42,
 oV 12 43,
 oV 10 44,
 mo (.call (.f 41) [(.t 41),(.t 42),(.t 43),(.t 44)] [] []) 45,
 oV 45 40,
 mo (.ext 0 (.t 40)) 46,
 mo (.ext 1 (.t 40)) 47,
 oV 46 14,
 oV 47 15]))
 (.seq (sR [oV 3 48,
 mo (.bin false .neq (.t 48) (cI (-1))) 49]
 (.cond (.t 49)
 (.seq (.note (.gc [3,4,5,8,10,12,14]) (.reg [mo (.ld (some 2) (.t 4)) 51,
 mo (.ld (some 2) (.t 5)) 52,
 oV 3 53,
 oV 12 54,
 oV 10 55,
 mo (.call (.f 42) [(.t 51),(.t 52),(.t 53),(.t 54),(.t 55)] [] []) 56,
 oV 56 50,
 mo (.ext 0 (.t 50)) 57,
 mo (.ext 1 (.t 50)) 58,
 mo (.alloc [(.int .i64 0),(.int .i64 0),(.int .i64 0),(.int .i64 0),(.sl [])]) 16,
 ⟨.st 5 (.t 16) (.t 57), none, none⟩,
 oV 58 17]))
 (.seq (.note (.gc [8,14,16]) (.reg [oV 14 59,
 mo (.ld (some 5) (.t 16)) 60,
 mo (.build [(.sl []),(.int .i64 0),(.int .i64 0),(.int .i64 0),(.int .i64 0),(.sl [])] [(0,1,(.t 59)), (1,5,(.t 60))]) 61,
 ⟨.st 6 (.t 8) (.t 61), none, none⟩,
 mo (.mv (.c (.bool true))) 9]))
 .ret))
 .skip))
 (.seq (.note (.gc [5,8,10,12,14]) (.reg [mo (.ld (some 2) (.t 5)) 63,
 oV 12 64,
 oV 10 65,
 mo (.call (.f 43) [(.t 63),(.t 64),(.t 65)] [] []) 66,
 oV 66 62,
 mo (.ext 0 (.t 62)) 67,
 mo (.ext 1 (.t 62)) 68,
 oV 67 18,
 oV 68 19]))
 (.seq (.note (.gc [8,10,12,14,18]) (.reg [oV 14 69,
 oV 12 70,
 oV 10 71,
 oV 18 72,
 mo (.build [(.int .i64 0),(.int .i64 0),(.int .i64 0),(.int .i64 0),(.sl [])] [(0,1,(.t 70)), (1,1,(.t 71)), (2,1,(.t 72)), (3,1, (cI (-1)))]) 73,
 mo (.build [(.sl []),(.int .i64 0),(.int .i64 0),(.int .i64 0),(.int .i64 0),(.sl [])] [(0,1,(.t 69)), (1,5,(.t 73))]) 74,
 ⟨.st 6 (.t 8) (.t 74), none, none⟩,
 mo (.mv (.c (.bool true))) 9]))
 .ret))))))))
theorem Wq_c {d_ : GDirectory} {a_ : GEstate} {content_ p_ : Int} : Cn Tryz.prog 22 [GDirectory.v d_, GEstate.v a_, .int .i64 content_, .int .i64 p_] [] (F_c d_ a_ content_ p_) (fun z => .tup [GLeak.v z.1, .bool z.2]) (fun z => []) := fun Q Q' h hQ => by
 refine acallM mc_c [.fzc 8] [] [.c 8 (some 6), .t 9] Tryz.func22 fun M => ?_
 unfold F_c at h
 unfold mc_c
 replace h := tY h
 refine tB ?_
 repeat' (first
 | (exact tZ)
 | ((first | refine oblg h ?_ | refine roomG h ?_ | refine fork h ?_ ?_ | refine forkS h ?_ ?_) <;> clear h <;> intro hc h)
 | (obtain ⟨y, hy, h⟩ := h; (first | with_reducible first | have hw := Wq_1w.w hy | have hw := Wq_15.w hy | have hw := Wq_1h.w hy | have hw := Wq_17.w hy | have hw := Wq_8.w hy); replace hw := tY hw; (first | refine M.sC hw ?_ | refine M.sD hw ?_); clear hw hy; refine tB ?_)
 | (refine tE ?_; (first | rw [M.lok_compU] | rw [M.lokD_compU]); refine tB ?_)
 | (refine tA ?_))
end Go.Ab
