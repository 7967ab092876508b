/- What the functions of this seat that lie on the laws' road compute (part LB), each for every input. By AI agents. -/
import Derived.Test.YtgjicmoegmbipaaGreatProg
import Derived.KernelRfl
import Derived.Test.YtgjicmoegmbipaaGreatAbFun
import Derived.Test.YtgjicmoegmbipaaGreatLA
set_option linter.all false
set_option linter.all false
set_option maxRecDepth 20000
set_option maxHeartbeats 2000000
namespace Go.Ab
open Go.Proofs
structure GExposure where
 Principal : Int
 Time : Int
instance : Inhabited GExposure := ⟨⟨default, default⟩⟩
def GExposure.v (x : GExposure) : V := .agg [.int .i64 x.Principal, .int .i64 x.Time]
structure GReading where
 Place : Int
 Time : Int
 Link : Int
 Grant : Int
 Chain : List Int
instance : Inhabited GReading := ⟨⟨default, default, default, default, default⟩⟩
def GReading.v (x : GReading) : V := .agg [.int .i64 x.Place, .int .i64 x.Time, .int .i64 x.Link, .int .i64 x.Grant, .sl (x.Chain.map (V.int .i64))]
structure GLeak where
 Way : List Int
 Reading : GReading
instance : Inhabited GLeak := ⟨⟨default, default⟩⟩
def GLeak.v (x : GLeak) : V := .agg [.sl (x.Way.map (V.int .i64)), .int .i64 x.Reading.Place, .int .i64 x.Reading.Time, .int .i64 x.Reading.Link, .int .i64 x.Reading.Grant, .sl (x.Reading.Chain.map (V.int .i64))]
attribute [go_sem] GExposure.v GLeak.v GReading.v
def F_e (d_ : GDirectory) (a_ : GEstate) (content_ : Int) : Option Int :=
 (F_s d_ a_).bind fun y4 => bif (!decide (y4 = 0)) then some y4 else (F_4 content_).bind fun y8 => bif (!y8) then some 2 else some 0
def mc_e : MC :=
 (.seq (.reg [mo (.box (.t 0)) 3,
 mo (.box (.t 1)) 4,
 mo (.mv (.c (.int .i64 0))) 6])
 (.seq (.seq (.reg [mo (.ld (some 2) (.t 3)) 8,
 mo (.ld (some 2) (.t 4)) 9,
 mo (.call (.f 50) [(.t 8),(.t 9)] [] []) 10,
 mo (.mv (.t 10)) 7])
 (.seq (.reg [mo (.mv (.t 7)) 11,
 mo (.bin false .neq (.t 11) (.c (.int .i64 0))) 12])
 (.cond (.t 12)
 (.seq (.reg [mo (.mv (.t 7)) 13,
 mo (.mv (.t 13)) 6])
 .ret)
 .skip)))
 (.seq (.seq (.note (.gc [2]) (.reg [mo (.mv (.t 2)) 14,
 mo (.call (.f 51) [(.t 14)] [] []) 15,
 mo (.not (.t 15)) 16]))
 (.cond (.t 16)
 (.seq (.reg [mo (.mv (.c (.int .i64 2))) 6])
 .ret)
 .skip))
 (.seq (.reg [mo (.mv (.c (.int .i64 0))) 6])
 .ret))))
theorem Wq_e (d_ : GDirectory) (a_ : GEstate) (content_ : Int) {Q : Int → Prop} {Q' : V → Heap → Prop} (h : Ok (F_e d_ a_ content_) Q) (hQ : ∀ z, Q z → Q' (.int .i64 z) []) : ACall Tryz.prog 28 [GDirectory.v d_, GEstate.v a_, .int .i64 content_] [] Q' := by
 refine acallM mc_e [] [] [.t 6] Tryz.func28 fun M => ?_
 unfold F_e at h
 unfold mc_e
 replace h := tY h
 refine tB ?_
 repeat' (first
 | (exact tZ)
 | ((first | refine oblg h ?_ | refine roomG h ?_ | refine fork h ?_ ?_ | refine forkS h ?_ ?_) <;> clear h <;> intro hc h)
 | (obtain ⟨y, hy, h⟩ := h; (first | with_reducible first | have hw := W_s hy | have hw := W_4 hy); replace hw := tY hw; (first | refine M.sC hw ?_ | refine M.sD hw ?_); clear hw hy; refine tB ?_)
 | (refine tE ?_; (first | rw [M.lok_compU] | rw [M.lokD_compU]); refine tB ?_)
 | (refine tA ?_))
def W_e {d_ a_ content_ y} (hy : (F_e d_ a_ content_) = some y) := acW (Wq_e d_ a_ content_) hy
def F_o (content_ : Int) : Option Int :=
 chk (shok content_ 64) (some (IntKind.wrap .u64 (1 * 2 ^ (content_).toNat)))
def mc_o : MC :=
 (.seq (.reg [mo (.mv (.c (.int .u64 0))) 2])
 (.seq (.reg [mo (.mv (.t 0)) 3,
 mo (.bin false .shl (.c (.int .u64 1)) (.t 3)) 4,
 mo (.mv (.t 4)) 2])
 .ret))
theorem Wq_o (content_ : Int) {Q : Int → Prop} {Q' : V → Heap → Prop} (h : Ok (F_o content_) Q) (hQ : ∀ z, Q z → Q' (.int .u64 z) []) : ACall Tryz.prog 88 [.int .i64 content_] [] Q' := by
 refine acallM mc_o [] [] [.t 2] Tryz.func88 fun M => ?_
 unfold F_o at h
 unfold mc_o
 replace h := tY h
 refine tB ?_
 repeat' (first
 | (exact tZ)
 | ((first | refine oblg h ?_ | refine roomG h ?_ | refine fork h ?_ ?_ | refine forkS h ?_ ?_) <;> clear h <;> intro hc h)
 | (refine tE ?_; (first | rw [M.lok_compU] | rw [M.lokD_compU]); refine tB ?_)
 | (refine tA ?_))
def W_o {content_ y} (hy : (F_o content_) = some y) := acW (Wq_o content_) hy
def F_f (s_ : List Int) (x_ : GAccess) : Option (List Int) :=
 bif decide (x_.Kind = 5) then chk (inb x_.Place s_.length) ((F_o x_.Content).bind fun y1 => chk (inb x_.Place s_.length) (some (s_.set ((x_.Place).toNat) (bits .or .u64 (s_.getD ((x_.Place).toNat) default) y1)))) else bif decide (x_.Kind = 6) then chk (inb x_.Place s_.length) ((F_o x_.Content).bind fun y2 => chk (inb x_.Place s_.length) (some (s_.set ((x_.Place).toNat) (bits .andNot .u64 (s_.getD ((x_.Place).toNat) default) y2)))) else bif decide (x_.Kind = 7) then chk (inb x_.Place s_.length) (chk (inb x_.From s_.length) (chk (inb x_.Place s_.length) (some (s_.set ((x_.Place).toNat) (bits .or .u64 (s_.getD ((x_.Place).toNat) default) (s_.getD ((x_.From).toNat) default)))))) else some s_
def mc_f : MC :=
 (.seq (.reg [mo (.box (.t 1)) 3])
 (.seq (.reg [mo (.fad 1 (.t 3)) 4,
 mo (.ld none (.t 4)) 5])
 (.block 0
 (.seq (.reg [mo (.bin false .eql (.t 5) (.c (.int .i64 5))) 7,
 mo (.mv (.t 7)) 6])
 (.cond (.t 6)
 (.regD [mo (.mv (.t 0)) 8,
 mo (.fad 2 (.t 3)) 9,
 mo (.ld none (.t 9)) 10,
 mo (.iad 1 (.t 8) (.t 10)) 11,
 mo (.ld none (.t 11)) 12,
 mo (.fad 5 (.t 3)) 13,
 mo (.ld none (.t 13)) 14,
 mo (.call (.f 88) [(.t 14)] [] []) 15,
 mo (.bin false .or (.t 12) (.t 15)) 16,
 mo (.iad 1 (.t 8) (.t 10)) 17,
 ⟨.st 1 (.t 17) (.t 16), none, none⟩]
 [[],[],[1],[0,2],[3],[],[5],[6],[4,7],[0,2,0,1,2,3,4,5,6,7,8],[9,8,7,0,1,2,3,4,5,6,7,8]]
 [[],[],[1],[0,1,2],[0,1,2,3],[],[5],[5,6],[0,1,2,3,4,5,6,7],[0,1,2,3,4,5,6,7,8],[0,1,2,3,4,5,6,7,8,9]])
 (.seq (.reg [mo (.bin false .eql (.t 5) (.c (.int .i64 6))) 19,
 mo (.mv (.t 19)) 18])
 (.cond (.t 18)
 (.regD [mo (.mv (.t 0)) 20,
 mo (.fad 2 (.t 3)) 21,
 mo (.ld none (.t 21)) 22,
 mo (.iad 1 (.t 20) (.t 22)) 23,
 mo (.ld none (.t 23)) 24,
 mo (.fad 5 (.t 3)) 25,
 mo (.ld none (.t 25)) 26,
 mo (.call (.f 88) [(.t 26)] [] []) 27,
 mo (.bin false .andNot (.t 24) (.t 27)) 28,
 mo (.iad 1 (.t 20) (.t 22)) 29,
 ⟨.st 1 (.t 29) (.t 28), none, none⟩]
 [[],[],[1],[0,2],[3],[],[5],[6],[4,7],[0,2,0,1,2,3,4,5,6,7,8],[9,8,7,0,1,2,3,4,5,6,7,8]]
 [[],[],[1],[0,1,2],[0,1,2,3],[],[5],[5,6],[0,1,2,3,4,5,6,7],[0,1,2,3,4,5,6,7,8],[0,1,2,3,4,5,6,7,8,9]])
 (.seq (.reg [mo (.bin false .eql (.t 5) (.c (.int .i64 7))) 31,
 mo (.mv (.t 31)) 30])
 (.cond (.t 30)
 (.note (.gc [0,3]) (.regD [mo (.mv (.t 0)) 32,
 mo (.fad 2 (.t 3)) 33,
 mo (.ld none (.t 33)) 34,
 mo (.iad 1 (.t 32) (.t 34)) 35,
 mo (.ld none (.t 35)) 36,
 mo (.mv (.t 0)) 37,
 mo (.fad 6 (.t 3)) 38,
 mo (.ld none (.t 38)) 39,
 mo (.iad 1 (.t 37) (.t 39)) 40,
 mo (.ld none (.t 40)) 41,
 mo (.bin false .or (.t 36) (.t 41)) 42,
 mo (.iad 1 (.t 32) (.t 34)) 43,
 ⟨.st 1 (.t 43) (.t 42), none, none⟩]
 [[],[],[1],[0,2],[3],[],[],[6],[5,7],[8],[4,9],[0,2,0,1,2,3,4,5,6,7,8,9,10],[11,10,0,1,2,3,4,5,6,7,8,9,10]]
 [[],[],[1],[0,1,2],[0,1,2,3],[],[],[6],[5,6,7],[5,6,7,8],[0,1,2,3,4,5,6,7,8,9],[0,1,2,3,4,5,6,7,8,9,10],[0,1,2,3,4,5,6,7,8,9,10,11]]))
 .skip)))))))))
theorem Wq_f (s_ : List Int) (x_ : GAccess) {Q : List Int → Prop} {Q' : V → Heap → Prop} (h : Ok (F_f s_ x_) Q) (hQ : ∀ z, Q z → Q' (.tup []) [(1000, .arr 1 (z.map (V.int .u64)))]) : ACall Tryz.prog 109 [.osl 1000 1 0 s_.length, GAccess.v x_] [(1000, .arr 1 (s_.map (V.int .u64)))] Q' := by
 refine acallM mc_f [] [1000] [] Tryz.func109 fun M => ?_
 unfold F_f at h
 unfold mc_f
 replace h := tY h
 refine tB ?_
 repeat' (first
 | (exact tZ)
 | ((first | refine oblg h ?_ | refine roomG h ?_ | refine fork h ?_ ?_ | refine forkS h ?_ ?_) <;> clear h <;> intro hc h)
 | (obtain ⟨y, hy, h⟩ := h; have hw := W_o hy; replace hw := tY hw; (first | refine M.sC hw ?_ | refine M.sD hw ?_); clear hw hy; refine tB ?_)
 | (refine tE ?_; (first | rw [M.lok_compU] | rw [M.lokD_compU]); refine tB ?_)
 | (refine ⟨_, getE_mapset (by first | exact inb_toNat (by assumption) | exact inb_nat (by assumption)), ?_⟩; (first | rw [M.lok_compU] | rw [M.lokD_compU] | (simp only [V.cells]; first | rw [M.lok_comp] | rw [M.lokD_comp])); refine tB ?_)
 | (refine tA ?_))
theorem F_6p {s_ : List Int} {x_ : GAccess} {y : List Int} (h : (F_f s_ x_) = some y) : y.length = s_.length := by
 simp only [F_f, chk, cond_eq_ite, Option.bind_eq_some_iff] at h
 repeat' (first | (split at h) | (simp only [Option.bind_eq_some_iff] at h) | (obtain ⟨_, _, h⟩ := h) | (cases h; done) | (obtain rfl := Option.some.inj h; simp; done) | (simp; done) | (subst h; simp; done))
def W_f {s_ x_ y} (hy : (F_f s_ x_) = some y) := acW (Wq_f s_ x_) hy
def F_2m (t_ : Int) (k30 : Int) (a31 : GAccess) (x29 : List Int) : Option (List Int) :=
 bif decide (a31.Time ≤ t_) then (F_f x29 a31).bind fun y35 => some y35 else some x29
def F_v (a_ : GEstate) (t_ : Int) : Option (List Int) :=
 chk (roomI a_.Places a_.Places 8) ((foldL (F_2m t_) a_.Events 0 (List.replicate (a_.Places).toNat 0)).bind fun x36 => some x36)
@[irreducible] def mc_2m : MC :=
 (.seq (.reg [mo (.bin false .lss (.t 14) (.t 13)) 15])
 (.seq (.cond (.t 15)
 .skip
 (.exit 0))
 (.seq (.block 1
 (.seq (.reg [mo (.iad 7 (.t 12) (.t 14)) 16,
 mo (.ld (some 7) (.t 16)) 17,
 mo (.alloc [(.int .i64 0),(.int .i64 0),(.int .i64 0),(.int .i64 0),(.int .i64 0),(.int .i64 0),(.int .i64 0)]) 7,
 ⟨.st 7 (.t 7) (.t 17), none, none⟩])
 (.seq (.reg [mo (.fad 0 (.t 7)) 18,
 mo (.ld none (.t 18)) 19,
 mo (.mv (.t 1)) 20,
 mo (.bin false .leq (.t 19) (.t 20)) 21])
 (.cond (.t 21)
 (.reg [mo (.mv (.t 5)) 22,
 mo (.ld (some 7) (.t 7)) 23,
 mo (.call (.f 109) [(.t 22),(.t 23)] [10] []) 24])
 .skip))))
 (.reg [mo (.bin true .add (.t 14) (.c (.int .i64 1))) 25,
 mo (.mv (.t 25)) 14]))))
def mc_v : MC :=
 (.seq (.reg [mo (.box (.t 0)) 2,
 mo (.mv (.c (.sl []))) 4])
 (.seq (.reg [mo (.fad 0 (.t 2)) 8,
 mo (.ld none (.t 8)) 9,
 mo (.mksl 1 8 (.int .u64 0) (.t 9) (.t 9)) 10,
 mo (.mv (.t 10)) 5])
 (.seq (.seq (.reg [mo (.fad 1 (.t 2)) 11,
 mo (.ld none (.t 11)) 12,
 mo (.len false (.t 12)) 13,
 mo (.mv (.c (.int .i64 0))) 14])
 (.block 0
 (.loop mc_2m)))
 (.seq (.reg [mo (.mv (.t 5)) 26,
 mo (.mv (.t 26)) 4])
 .ret))))
theorem Wq_v (a_ : GEstate) (t_ : Int) {Q : List Int → Prop} {Q' : V → Heap → Prop} (h : Ok (F_v a_ t_) Q) (hQ : ∀ z, Q z → Q' (.sl (z.map (V.int .u64))) []) : ACall Tryz.prog 87 [GEstate.v a_, .int .i64 t_] [] Q' := by
 refine acallM mc_v [.fz 4] [] [.t 4] Tryz.func87 fun M => ?_
 unfold F_v at h
 unfold mc_v
 replace h := tY h
 refine tB ?_
 repeat' (first
 | (exact tZ)
 | ((first | refine oblg h ?_ | refine roomG h ?_ | refine fork h ?_ ?_ | refine forkS h ?_ ?_) <;> clear h <;> intro hc h)
 | (obtain ⟨y, hy, h⟩ := h; (have hw := acall_swe 1000 10 (W_f hy); replace hw := tY hw; have hlen := F_6p hy); replace hw := tY hw; (first | refine M.sC hw ?_ | refine M.sD hw ?_); clear hw hy; refine tB ?_)
 | (refine M.fold1 (b := mc_2m) 14 [1,12,13] [] (fun x => [(5, .osl 10 1 0 x.length)]) (fun x => [.o 10 (.arr 1 (x.map (V.int .u64)))]) [] h ?_ ?_ ?_ <;> first
 | (clear h; intro k a x Qn K hK1 hkN1 ha1 h hf; have hl := fact_int (factsE_find (n := 13) hf.1 rfl); clear hf; have hkd := kD hkN1; have hkB1 := kB hkN1; have hkI1 := kI (k := k) (by omega); unfold F_2m at h; unfold mc_2m; replace h := tY h; refine tK ha1 hkd hkN1 hkB1 hkI1 ?_)
  |(clear h; intro x K h; replace h := And.left (And.intro h trivial); unfold mc_2m; replace h := tY h; refine tB ?_)
  |(clear h; (try refine tB ?_); exact tU; done))
 | (simp only [ha1])
 | (refine hK1 _ ?_; (try refine tB ?_); refine ⟨_, h, ?_⟩; exact tU; done)
 | (refine tE ?_; (first | rw [M.lok_compU] | rw [M.lokD_compU]); refine tB ?_)
 | (refine tA ?_))
def W_v {a_ t_ y} (hy : (F_v a_ t_) = some y) := acW (Wq_v a_ t_) hy
def F_2n (content_ : Int) (k56 : Int) (a57 : Int) (x55 : List Int) : Option (List Int) :=
 (F_o content_).bind fun y65 => bif (!decide ((bits .and .u64 a57 y65) = 0)) then chk (room (x55.length + [k56].length) 8) (some (x55 ++ [k56])) else some x55
def F_p (a_ : GEstate) (content_ : Int) (t_ : Int) : Option (List Int) :=
 (F_7 a_).bind fun y7 => bif (!decide (y7 = 0)) then some [] else (F_4 content_).bind fun y8 => bif (!y8) then some [] else (F_v a_ t_).bind fun y37 => (foldL (F_2n content_) y37 0 []).bind fun x66 => some x66
@[irreducible] def mc_2n : MC :=
 (.seq (.reg [mo (.bin false .lss (.t 22) (.t 21)) 23])
 (.seq (.cond (.t 23)
 .skip
 (.exit 0))
 (.seq (.block 1
 (.seq (.reg [mo (.mv (.t 22)) 24,
 mo (.iad 1 (.t 20) (.t 22)) 25,
 mo (.ld none (.t 25)) 26,
 mo (.mv (.t 24)) 8,
 mo (.mv (.t 26)) 9])
 (.seq (.reg [mo (.mv (.t 9)) 27,
 mo (.mv (.t 1)) 28,
 mo (.call (.f 88) [(.t 28)] [] []) 29,
 mo (.bin false .and (.t 27) (.t 29)) 30,
 mo (.bin false .neq (.t 30) (.c (.int .u64 0))) 31])
 (.cond (.t 31)
 (.note (.gc [1,7,8,20,21,22]) (.reg [mo (.mv (.t 7)) 32,
 mo (.mv (.t 8)) 33,
 mo (.bslice 1 [(.t 33)]) 34,
 mo (.app 1 8 (.t 32) (.t 34)) 35,
 mo (.mv (.t 35)) 7]))
 .skip))))
 (.reg [mo (.bin true .add (.t 22) (.c (.int .i64 1))) 36,
 mo (.mv (.t 36)) 22]))))
def mc_p : MC :=
 (.seq (.reg [mo (.box (.t 0)) 3,
 mo (.mv (.c (.sl []))) 6])
 (.seq (.seq (.reg [mo (.ld (some 2) (.t 3)) 10,
 mo (.call (.f 62) [(.t 10)] [] []) 11,
 mo (.bin false .neq (.t 11) (.c (.int .i64 0))) 12,
 mo (.mv (.t 12)) 13,
 ⟨.mv (.t 1), (some 14), (some (13, false))⟩,
 ⟨.call (.f 51) [(.t 14)] [] [], (some 15), (some (13, false))⟩,
 ⟨.not (.t 15), (some 16), (some (13, false))⟩,
 mo (.pick (.t 13) (.c (.bool true)) (.t 16)) 17])
 (.cond (.t 17)
 (.seq (.reg [mo (.mv (.c (.sl []))) 6])
 .ret)
 .skip))
 (.seq (.reg [mo (.mv (.c .nils)) 7])
 (.seq (.seq (.note (.gc [1,2,3,7]) (.reg [mo (.ld (some 2) (.t 3)) 18,
 mo (.mv (.t 2)) 19,
 mo (.call (.f 87) [(.t 18),(.t 19)] [] []) 20,
 mo (.len false (.t 20)) 21,
 mo (.mv (.c (.int .i64 0))) 22]))
 (.block 0
 (.loop mc_2n)))
 (.seq (.reg [mo (.mv (.t 7)) 37,
 mo (.mv (.t 37)) 6])
 .ret)))))
theorem Wq_p (a_ : GEstate) (content_ : Int) (t_ : Int) {Q : List Int → Prop} {Q' : V → Heap → Prop} (h : Ok (F_p a_ content_ t_) Q) (hQ : ∀ z, Q z → Q' (.sl (z.map (V.int .i64))) []) : ACall Tryz.prog 60 [GEstate.v a_, .int .i64 content_, .int .i64 t_] [] Q' := by
 refine acallM mc_p [.fz 6] [] [.t 6] Tryz.func60 fun M => ?_
 unfold F_p at h
 unfold mc_p
 replace h := tY h
 refine tB ?_
 repeat' (first
 | (exact tZ)
 | ((first | refine oblg h ?_ | refine roomG h ?_ | refine fork h ?_ ?_ | refine forkS h ?_ ?_) <;> clear h <;> intro hc h)
 | (obtain ⟨y, hy, h⟩ := h; (first | with_reducible first | have hw := W_7 hy | have hw := W_4 hy | have hw := W_v hy | have hw := W_o hy); replace hw := tY hw; (first | refine M.sC hw ?_ | refine M.sD hw ?_); clear hw hy; refine tB ?_)
 | (refine M.fold1 (b := mc_2n) 22 [1,20,21] [] (fun x => [(7, .osl 2007 1 0 x.length)]) (fun x => [.o 2007 (.arr 1 (x.map (V.int .i64)))]) [.gc [1,7,20,21,22], .acc 7 2007 1] h ?_ ?_ ?_ <;> first
 | (clear h; intro k a x Qn K hK1 hkN1 ha1 h hf; have hl := fact_int (factsE_find (n := 21) hf.1 rfl); clear hf; have hkd := kD hkN1; have hkB1 := kB hkN1; have hkI1 := kI (k := k) (by omega); unfold F_2n at h; unfold mc_2n; replace h := tY h; refine tK ha1 hkd hkN1 hkB1 hkI1 ?_)
  |(clear h; intro x K h; replace h := And.left (And.intro h trivial); unfold mc_2n; replace h := tY h; refine tB ?_)
  |(clear h; (try refine tB ?_); exact tU0; done))
 | (simp only [ha1])
 | (refine hK1 _ ?_; (try refine tB ?_); refine ⟨_, h, ?_⟩; exact tU0; done)
 | (refine tE ?_; (first | rw [M.lok_compU] | rw [M.lokD_compU]); refine tB ?_)
 | (refine tA ?_))
def W_p {a_ content_ t_ y} (hy : (F_p a_ content_ t_) = some y) := acW (Wq_p a_ content_ t_) hy
noncomputable def F_2o (d_ : GDirectory) (a_ : GEstate) (p_ : Int) (t_ : Int) (k75 : Int) (a76 : Int) (x74 : Unit) : Option (Fl Unit (Int × Bool)) :=
 (F_6 a_ a76 t_).bind fun y96 => grp ((decide (p_ = (-1)) && y96.2)) fun b99 => bif b99 then some (.ex (a76, true)) else bif (!decide (p_ = (-1))) then (F_u d_ a_ p_ a76 t_).bind fun y100 => bif y100 then some (.ex (a76, true)) else some (.nx ()) else some (.nx ())
noncomputable def F_g (d_ : GDirectory) (a_ : GEstate) (content_ : Int) (p_ : Int) (t_ : Int) : Option (Int × Bool) :=
 (F_p a_ content_ t_).bind fun y47 => (forL (F_2o d_ a_ p_ t_) y47 0 ()).bind fun o => o.elim (fun x101 => some (0, false)) (fun r102 => some r102)
@[irreducible] def mg_4f : List MOp := [⟨.mv (.t 15), (some 35), (some (34, true))⟩,
 mo (.pick (.t 34) (.t 35) (.c (.bool false))) 36]
@[irreducible] def mc_2o : MC :=
 (.seq (.reg [mo (.bin false .lss (.t 21) (.t 20)) 22])
 (.seq (.cond (.t 22)
 .skip
 (.exit 0))
 (.seq (.block 1
 (.seq (.reg [mo (.iad 1 (.t 19) (.t 21)) 23,
 mo (.ld none (.t 23)) 24,
 mo (.mv (.t 24)) 13])
 (.seq (.reg [mo (.ld (some 2) (.t 6)) 26,
 mo (.mv (.t 13)) 27,
 mo (.mv (.t 4)) 28,
 mo (.call (.f 43) [(.t 26),(.t 27),(.t 28)] [] []) 29,
 mo (.mv (.t 29)) 25,
 mo (.ext 0 (.t 25)) 30,
 mo (.ext 1 (.t 25)) 31,
 mo (.mv (.t 30)) 14,
 mo (.mv (.t 31)) 15])
 (.seq (.note (.gc [3,4,5,6,13,15,19,20,21,35,38,39,40,41,42,43,44,45,46,47]) (.regI [.op (mo (.mv (.t 3)) 32),
 .op (mo (.bin false .eql (.t 32) (.c (.int .i64 (-1)))) 33),
 .op (mo (.mv (.t 33)) 34),
 .grp mg_4f,
 .op (mo (.mv (.t 36)) 37),
 .op ⟨.mv (.t 3), (some 38), (some (37, false))⟩,
 .op ⟨.bin false .neq (.t 38) (.c (.int .i64 (-1))), (some 39), (some (37, false))⟩,
 .op ⟨.mv (.t 39), (some 40), (some (37, false))⟩,
 .op ⟨.ld (some 2) (.t 5), (some 41), (some (40, true))⟩,
 .op ⟨.ld (some 2) (.t 6), (some 42), (some (40, true))⟩,
 .op ⟨.mv (.t 3), (some 43), (some (40, true))⟩,
 .op ⟨.mv (.t 13), (some 44), (some (40, true))⟩,
 .op ⟨.mv (.t 4), (some 45), (some (40, true))⟩,
 .op ⟨.call (.f 61) [(.t 41),(.t 42),(.t 43),(.t 44),(.t 45)] [] [], (some 46), (some (40, true))⟩,
 .op ⟨.pick (.t 40) (.t 46) (.c (.bool false)), (some 47), (some (37, false))⟩,
 .op (mo (.pick (.t 37) (.c (.bool true)) (.t 47)) 48)]))
 (.cond (.t 48)
 (.seq (.note (.gc [13]) (.reg [mo (.mv (.t 13)) 49,
 mo (.mv (.t 49)) 10,
 mo (.mv (.c (.bool true))) 11]))
 .ret)
 .skip)))))
 (.reg [mo (.bin true .add (.t 21) (.c (.int .i64 1))) 50,
 mo (.mv (.t 50)) 21]))))
def mc_g : MC :=
 (.seq (.reg [mo (.box (.t 0)) 5,
 mo (.box (.t 1)) 6,
 mo (.mv (.c (.int .i64 0))) 10,
 mo (.mv (.c (.bool false))) 11])
 (.seq (.seq (.reg [mo (.ld (some 2) (.t 6)) 16,
 mo (.mv (.t 2)) 17,
 mo (.mv (.t 4)) 18,
 mo (.call (.f 60) [(.t 16),(.t 17),(.t 18)] [] []) 19,
 mo (.len false (.t 19)) 20,
 mo (.mv (.c (.int .i64 0))) 21])
 (.block 0
 (.loop mc_2o)))
 (.seq (.reg [mo (.mv (.c (.int .i64 0))) 10,
 mo (.mv (.c (.bool false))) 11])
 .ret)))
theorem Wq_g (d_ : GDirectory) (a_ : GEstate) (content_ : Int) (p_ : Int) (t_ : Int) {Q : Int × Bool → Prop} {Q' : V → Heap → Prop} (h : Ok (F_g d_ a_ content_ p_ t_) Q) (hQ : ∀ z, Q z → Q' (.tup [.int .i64 z.1, .bool z.2]) []) : ACall Tryz.prog 35 [GDirectory.v d_, GEstate.v a_, .int .i64 content_, .int .i64 p_, .int .i64 t_] [] Q' := by
 refine acallM mc_g [] [] [.t 10, .t 11] Tryz.func35 fun M => ?_
 unfold F_g at h
 unfold mc_g
 replace h := tY h
 refine tB ?_
 repeat' (first
 | (exact tZ)
 | ((first | refine oblg h ?_ | refine roomG h ?_ | refine fork h ?_ ?_ | refine forkS h ?_ ?_) <;> clear h <;> intro hc h)
 | (obtain ⟨y, hy, h⟩ := h; (first | with_reducible first | have hw := W_p hy | have hw := W_6 hy | have hw := W_u hy); replace hw := tY hw; (first | refine M.sC hw ?_ | refine M.sD hw ?_); clear hw hy; refine tB ?_)
 | (refine M.gv1 (ms := mg_4f) 36 [35] h ?_ ?_ <;> first
 | (clear h; intro K hK1; unfold mg_4f; refine tB ?_)
 | (clear h; intro b h; replace h := tY h; refine tB ?_))
 | (refine M.for1 (b := mc_2o) 21 [3,4,5,6,19,20] [6,5] (fun x => []) (fun x => []) [] h ?_ ?_ ?_ <;> first
 | (clear h; intro k a x Qn K hK2 hkN2 ha2 h hf; have hl := fact_int (factsE_find (n := 20) hf.1 rfl); clear hf; have hkd := kD hkN2; have hkB2 := kB hkN2; have hkI2 := kI (k := k) (by omega); unfold F_2o at h; unfold mc_2o; replace h := tY h; refine tK ha2 hkd hkN2 hkB2 hkI2 ?_)
  |(clear h; intro x K h; replace h := And.left (And.intro h trivial); unfold mc_2o; replace h := tY h; refine tB ?_)
  |(clear h; (try refine tB ?_); exact tU0; done))
 | (simp only [ha2])
 | (refine hK1 _ ?_; exact tU; done)
 | (refine hK2 _ ?_; (try refine tB ?_); refine ⟨_, h, ?_⟩; exact tU0; done)
 | (refine bfork (fun hc => ?_) (fun hc => ?_))
 | (refine tE ?_; (first | rw [M.lok_compU] | rw [M.lokD_compU]); refine tB ?_)
 | (refine tA ?_))
def W_g {d_ a_ content_ p_ t_ y} (hy : (F_g d_ a_ content_ p_ t_) = some y) := acW (Wq_g d_ a_ content_ p_ t_) hy
noncomputable def F_2v (d_ : GDirectory) (a_ : GEstate) (content_ : Int) (p_ : Int) (k35 : Int) (a36 : Int) (x34 : Unit) : Option (Fl Unit (Int × Bool)) :=
 (F_g d_ a_ content_ p_ a36).bind fun y44 => bif y44.2 then some (.ex (a36, true)) else some (.nx ())
noncomputable def F_w (d_ : GDirectory) (a_ : GEstate) (content_ : Int) (p_ : Int) : Option (Int × Bool) :=
 (F_1h d_ a_).bind fun y23 => (forL (F_2v d_ a_ content_ p_) y23 0 ()).bind fun o => o.elim (fun x45 => some (0, false)) (fun r46 => some r46)
@[irreducible] def mc_2v : MC :=
 (.seq (.reg [mo (.bin false .lss (.t 18) (.t 17)) 19])
 (.seq (.cond (.t 19)
 .skip
 (.exit 0))
 (.seq (.block 1
 (.seq (.reg [mo (.iad 1 (.t 16) (.t 18)) 20,
 mo (.ld none (.t 20)) 21,
 mo (.mv (.t 21)) 11])
 (.seq (.reg [mo (.ld (some 2) (.t 4)) 23,
 mo (.ld (some 2) (.t 5)) 24,
 mo (.mv (.t 2)) 25,
 mo (.mv (.t 3)) 26,
 mo (.mv (.t 11)) 27,
 mo (.call (.f 35) [(.t 23),(.t 24),(.t 25),(.t 26),(.t 27)] [] []) 28,
 mo (.mv (.t 28)) 22,
 mo (.ext 0 (.t 22)) 29,
 mo (.ext 1 (.t 22)) 30,
 mo (.mv (.t 29)) 12,
 mo (.mv (.t 30)) 13])
 (.seq (.reg [mo (.mv (.t 13)) 31])
 (.cond (.t 31)
 (.seq (.note (.gc [11]) (.reg [mo (.mv (.t 11)) 32,
 mo (.mv (.t 32)) 8,
 mo (.mv (.c (.bool true))) 9]))
 .ret)
 .skip)))))
 (.reg [mo (.bin true .add (.t 18) (.c (.int .i64 1))) 33,
 mo (.mv (.t 33)) 18]))))
def mc_w : MC :=
 (.seq (.reg [mo (.box (.t 0)) 4,
 mo (.box (.t 1)) 5,
 mo (.mv (.c (.int .i64 0))) 8,
 mo (.mv (.c (.bool false))) 9])
 (.seq (.seq (.reg [mo (.ld (some 2) (.t 4)) 14,
 mo (.ld (some 2) (.t 5)) 15,
 mo (.call (.f 52) [(.t 14),(.t 15)] [] []) 16,
 mo (.len false (.t 16)) 17,
 mo (.mv (.c (.int .i64 0))) 18])
 (.block 0
 (.loop mc_2v)))
 (.seq (.reg [mo (.mv (.c (.int .i64 0))) 8,
 mo (.mv (.c (.bool false))) 9])
 .ret)))
theorem Wq_w (d_ : GDirectory) (a_ : GEstate) (content_ : Int) (p_ : Int) {Q : Int × Bool → Prop} {Q' : V → Heap → Prop} (h : Ok (F_w d_ a_ content_ p_) Q) (hQ : ∀ z, Q z → Q' (.tup [.int .i64 z.1, .bool z.2]) []) : ACall Tryz.prog 29 [GDirectory.v d_, GEstate.v a_, .int .i64 content_, .int .i64 p_] [] Q' := by
 refine acallM mc_w [] [] [.t 8, .t 9] Tryz.func29 fun M => ?_
 unfold F_w at h
 unfold mc_w
 replace h := tY h
 refine tB ?_
 repeat' (first
 | (exact tZ)
 | ((first | refine oblg h ?_ | refine roomG h ?_ | refine fork h ?_ ?_ | refine forkS h ?_ ?_) <;> clear h <;> intro hc h)
 | (obtain ⟨y, hy, h⟩ := h; (first | with_reducible first | have hw := W_1h hy | have hw := W_g hy); replace hw := tY hw; (first | refine M.sC hw ?_ | refine M.sD hw ?_); clear hw hy; refine tB ?_)
 | (refine M.for1 (b := mc_2v) 18 [2,3,4,5,16,17] [5,4] (fun x => []) (fun x => []) [] h ?_ ?_ ?_ <;> first
 | (clear h; intro k a x Qn K hK1 hkN1 ha1 h hf; have hl := fact_int (factsE_find (n := 17) hf.1 rfl); clear hf; have hkd := kD hkN1; have hkB1 := kB hkN1; have hkI1 := kI (k := k) (by omega); unfold F_2v at h; unfold mc_2v; replace h := tY h; refine tK ha1 hkd hkN1 hkB1 hkI1 ?_)
  |(clear h; intro x K h; replace h := And.left (And.intro h trivial); unfold mc_2v; replace h := tY h; refine tB ?_)
  |(clear h; (try refine tB ?_); exact tU0; done))
 | (simp only [ha1])
 | (refine hK1 _ ?_; (try refine tB ?_); refine ⟨_, h, ?_⟩; exact tU0; done)
 | (refine tE ?_; (first | rw [M.lok_compU] | rw [M.lokD_compU]); refine tB ?_)
 | (refine tA ?_))
def W_w {d_ a_ content_ p_ y} (hy : (F_w d_ a_ content_ p_) = some y) := acW (Wq_w d_ a_ content_ p_) hy
noncomputable def F_1v (d_ : GDirectory) (a_ : GEstate) (content_ : Int) (x26 : Int × (List GExposure)) : Option (Fl (Int × (List GExposure)) (List GExposure)) :=
 bif decide (x26.1 < (d_.Kinds.length : Int)) then jn (α := List GExposure) ((F_w d_ a_ content_ x26.1).bind fun y34 => bif y34.2 then chk (room (x26.2.length + [(GExposure.mk x26.1 y34.1)].length) 16) (some (x26.2 ++ [(GExposure.mk x26.1 y34.1)])) else some x26.2) fun j32 => chk (in64 (x26.1 + 1)) (some (.nx ((x26.1 + 1), j32))) else some (.ex x26.2)
noncomputable def F_1i (d_ : GDirectory) (a_ : GEstate) (content_ : Int) : Option ((List GExposure) × Int) :=
 (F_e d_ a_ content_).bind fun y4 => bif (!decide (y4 = 0)) then some ([], y4) else (loop (F_1v d_ a_ content_) ((-1),[])).bind fun r35 => some (r35,0)
@[irreducible] def mc_4g : MC :=
 (.reg [mo (.mv (.t 10)) 25,
 mo (.bin true .add (.t 25) (.c (.int .i64 1))) 26,
 mo (.mv (.t 26)) 10])
@[irreducible] def mc_1v : MC :=
 (.seq (.seq (.reg [mo (.mv (.t 10)) 20,
 mo (.fad 0 (.t 3)) 21,
 mo (.ld none (.t 21)) 22,
 mo (.len false (.t 22)) 23,
 mo (.bin false .lss (.t 20) (.t 23)) 24])
 (.cond (.t 24)
 .skip
 (.exit 0)))
 (.cut (.block 1
 (.seq (.reg [mo (.ld (some 2) (.t 3)) 28,
 mo (.ld (some 2) (.t 4)) 29,
 mo (.mv (.t 2)) 30,
 mo (.mv (.t 10)) 31,
 mo (.call (.f 29) [(.t 28),(.t 29),(.t 30),(.t 31)] [] []) 32,
 mo (.mv (.t 32)) 27,
 mo (.ext 0 (.t 27)) 33,
 mo (.ext 1 (.t 27)) 34,
 mo (.mv (.t 33)) 11,
 mo (.mv (.t 34)) 12])
 (.seq (.reg [mo (.mv (.t 12)) 35])
 (.cond (.t 35)
 (.note (.gc [2,3,4,9,10,11]) (.reg [mo (.mv (.t 9)) 36,
 mo (.mv (.t 10)) 37,
 mo (.mv (.t 11)) 38,
 mo (.build [(.int .i64 0),(.int .i64 0)] [(0,1,(.t 37)), (1,1,(.t 38))]) 39,
 mo (.bslice 2 [(.t 39)]) 40,
 mo (.app 2 16 (.t 36) (.t 40)) 41,
 mo (.mv (.t 41)) 9]))
 .skip))))
 mc_4g))
def mc_1i : MC :=
 (.seq (.reg [mo (.box (.t 0)) 3,
 mo (.box (.t 1)) 4,
 mo (.mv (.c (.sl []))) 6,
 mo (.mv (.c (.int .i64 0))) 7])
 (.seq (.seq (.reg [mo (.ld (some 2) (.t 3)) 13,
 mo (.ld (some 2) (.t 4)) 14,
 mo (.mv (.t 2)) 15,
 mo (.call (.f 28) [(.t 13),(.t 14),(.t 15)] [] []) 16,
 mo (.mv (.t 16)) 8])
 (.seq (.reg [mo (.mv (.t 8)) 17,
 mo (.bin false .neq (.t 17) (.c (.int .i64 0))) 18])
 (.cond (.t 18)
 (.seq (.note (.gc [8]) (.reg [mo (.mv (.t 8)) 19,
 mo (.mv (.c (.sl []))) 6,
 mo (.mv (.t 19)) 7]))
 .ret)
 .skip)))
 (.seq (.reg [mo (.mv (.c .nils)) 9])
 (.seq (.seq (.reg [mo (.mv (.c (.int .i64 (-1)))) 10])
 (.block 0
 (.loop mc_1v)))
 (.seq (.reg [mo (.mv (.t 9)) 42,
 mo (.mv (.t 42)) 6,
 mo (.mv (.c (.int .i64 0))) 7])
 .ret)))))
theorem Wq_1i (d_ : GDirectory) (a_ : GEstate) (content_ : Int) {Q : (List GExposure) × Int → Prop} {Q' : V → Heap → Prop} (h : Ok (F_1i d_ a_ content_) Q) (hQ : ∀ z, Q z → Q' (.tup [.sl (z.1.map GExposure.v), .int .i64 z.2]) []) : ACall Tryz.prog 13 [GDirectory.v d_, GEstate.v a_, .int .i64 content_] [] Q' := by
 refine acallM mc_1i [.fz 6] [] [.t 6, .t 7] Tryz.func13 fun M => ?_
 unfold F_1i at h
 unfold mc_1i
 replace h := tY h
 refine tB ?_
 repeat' (first
 | (exact tZ)
 | ((first | refine oblg h ?_ | refine roomG h ?_ | refine fork h ?_ ?_ | refine forkS h ?_ ?_) <;> clear h <;> intro hc h)
 | (obtain ⟨y, hy, h⟩ := h; (first | with_reducible first | have hw := W_e hy | have hw := W_w hy); replace hw := tY hw; (first | refine M.sC hw ?_ | refine M.sD hw ?_); clear hw hy; refine tB ?_)
 | (refine M.jn1 (b := mc_4g) [2,3,4,10] [4,3] (fun y => [(9, .osl 2009 2 0 y.length)]) (fun y => [.o 2009 (.arr 2 (y.map GExposure.v))]) [.gc [2,3,4,9,10], .acc 9 2009 2] h ?_ ?_ <;> first
 | (clear h; intro Qn K hK1 h; replace h := tY h; refine tB ?_)
  |(clear h; intro y h; unfold mc_4g; replace h := tY h; refine tB ?_))
 | (refine M.wh1 (b := mc_1v) [2,3,4] [4,3] (fun x => [(9, .osl 2009 2 0 x.2.length), (10, .int .i64 x.1)]) (fun x => [.o 2009 (.arr 2 (x.2.map GExposure.v))]) [.gc [2,3,4,9,10], .acc 9 2009 2] h ?_ ?_ <;> first
 | (clear h; intro x Qn K hK2 h; unfold F_1v at h; unfold mc_1v; replace h := tY h; refine tB ?_)
  |(clear h; (try refine tB ?_); exact tU0; done))
 | ((first | refine hK1 _ ?_ | refine hK2 _ ?_); (try refine tB ?_); refine ⟨_, h, ?_⟩; exact tU0; done)
 | (refine tE ?_; (first | rw [M.lok_compU] | rw [M.lokD_compU]); refine tB ?_)
 | (refine tA ?_))
def W_1i {d_ a_ content_ y} (hy : (F_1i d_ a_ content_) = some y) := acW (Wq_1i d_ a_ content_) hy
noncomputable def F_x (d_ : GDirectory) (a_ : GEstate) (content_ : Int) (p_ : Int) : Option (Int × Bool) :=
 (F_e d_ a_ content_).bind fun y4 => bif (!decide (y4 = 0)) then some (0, false) else (F_w d_ a_ content_ p_).bind fun y6 => some (y6.1, y6.2)
def mc_x : MC :=
 (.seq (.reg [mo (.box (.t 0)) 4,
 mo (.box (.t 1)) 5,
 mo (.mv (.c (.int .i64 0))) 8,
 mo (.mv (.c (.bool false))) 9])
 (.seq (.seq (.reg [mo (.ld (some 2) (.t 4)) 10,
 mo (.ld (some 2) (.t 5)) 11,
 mo (.mv (.t 2)) 12,
 mo (.call (.f 28) [(.t 10),(.t 11),(.t 12)] [] []) 13,
 mo (.bin false .neq (.t 13) (.c (.int .i64 0))) 14])
 (.cond (.t 14)
 (.seq (.reg [mo (.mv (.c (.int .i64 0))) 8,
 mo (.mv (.c (.bool false))) 9])
 .ret)
 .skip))
 (.seq (.note (.gc [2,3,4,5]) (.reg [mo (.ld (some 2) (.t 4)) 15,
 mo (.ld (some 2) (.t 5)) 16,
 mo (.mv (.t 2)) 17,
 mo (.mv (.t 3)) 18,
 mo (.call (.f 29) [(.t 15),(.t 16),(.t 17),(.t 18)] [] []) 19,
 mo (.ext 0 (.t 19)) 20,
 mo (.ext 1 (.t 19)) 21,
 mo (.mv (.t 20)) 8,
 mo (.mv (.t 21)) 9]))
 .ret)))
theorem Wq_x (d_ : GDirectory) (a_ : GEstate) (content_ : Int) (p_ : Int) {Q : Int × Bool → Prop} {Q' : V → Heap → Prop} (h : Ok (F_x d_ a_ content_ p_) Q) (hQ : ∀ z, Q z → Q' (.tup [.int .i64 z.1, .bool z.2]) []) : ACall Tryz.prog 12 [GDirectory.v d_, GEstate.v a_, .int .i64 content_, .int .i64 p_] [] Q' := by
 refine acallM mc_x [] [] [.t 8, .t 9] Tryz.func12 fun M => ?_
 unfold F_x at h
 unfold mc_x
 replace h := tY h
 refine tB ?_
 repeat' (first
 | (exact tZ)
 | ((first | refine oblg h ?_ | refine roomG h ?_ | refine fork h ?_ ?_ | refine forkS h ?_ ?_) <;> clear h <;> intro hc h)
 | (obtain ⟨y, hy, h⟩ := h; (first | with_reducible first | have hw := W_e hy | have hw := W_w hy); replace hw := tY hw; (first | refine M.sC hw ?_ | refine M.sD hw ?_); clear hw hy; refine tB ?_)
 | (refine tE ?_; (first | rw [M.lok_compU] | rw [M.lokD_compU]); refine tB ?_)
 | (refine tA ?_))
def W_x {d_ a_ content_ p_ y} (hy : (F_x d_ a_ content_ p_) = some y) := acW (Wq_x d_ a_ content_ p_) hy
noncomputable def F_26 (s_ : List Int) : Option (List Int) :=
 amb s_.isEmpty (some []) (chk (room (([] : List Int).length + s_.length) 8) (some (([] : List Int) ++ s_)))
def mc_26 : MC :=
 (.seq (.reg [mo (.mv (.c .nils)) 2])
 (.seq (.seq (.reg [mo (.mv (.t 0)) 3,
 mo (.mp (.isn false) [(.t 3)]) 4])
 (.cond (.t 4)
 (.seq (.reg [mo (.mv (.c .nils)) 2])
 .ret)
 .skip))
 (.seq (.reg [mo (.bslice 1 []) 5,
 mo (.mv (.t 0)) 6,
 mo (.app 1 8 (.t 5) (.t 6)) 7,
 mo (.mv (.t 7)) 2])
 .ret)))
theorem Wq_26 (s_ : List Int) {Q : List Int → Prop} {Q' : V → Heap → Prop} (h : Ok (F_26 s_) Q) (hQ : ∀ z, Q z → Q' (.osl 1900 1 0 z.length) [(1900, .arr 1 (z.map (V.int .i64)))]) : ACall Tryz.prog 64 [.sl (s_.map (V.int .i64))] [] Q' := by
 refine acallM mc_26 [.acc 2 1900 1] [1900] [.t 2] Tryz.func64 fun M => ?_
 unfold F_26 at h
 unfold mc_26
 replace h := tY h
 refine tB ?_
 repeat' (first
 | (exact tZ)
 | ((first | refine oblg h ?_ | refine roomG h ?_ | refine fork h ?_ ?_ | refine forkS h ?_ ?_) <;> clear h <;> intro hc h)
 | (refine amb_fork h (fun hp => by simpa using hp) ?_ ?_ <;> first
 | (clear h; intro hc h; rw [M.lok_eq]; replace h := tY h; refine tB ?_)
  |(clear h; intro h; rw [M.lok_eq]; replace h := tY h; refine tB ?_))
 | (refine tE ?_; (first | rw [M.lok_compU] | rw [M.lokD_compU]); refine tB ?_)
 | (refine tA ?_))
def W_26 {s_ y} (hy : (F_26 s_) = some y) := acW (Wq_26 s_) hy
noncomputable def F_3a (content_ : Int) (t_ : Int) (k182 : Int) (a183 : GAccess) (x181 : List (List Int)) : Option (List (List Int)) :=
 chk (inb a183.Place x181.length) (bif decide (t_ < a183.Time) then some x181 else grp ((decide (a183.Kind = 5) && decide (a183.Content = content_))) fun b219 => grp ((b219 && (!(decide (0 < ((x181.getD ((a183.Place).toNat) default).length : Int)))))) fun b220 => bif b220 then chk (inb a183.Place x181.length) (some (x181.set ((a183.Place).toNat) [k182])) else grp ((decide (a183.Kind = 6) && decide (a183.Content = content_))) fun b222 => bif b222 then chk (inb a183.Place x181.length) (some (x181.set ((a183.Place).toNat) [])) else grp ((decide (a183.Kind = 7) && (!(decide (0 < ((x181.getD ((a183.Place).toNat) default).length : Int)))))) fun b225 => jn (α := Bool) (bif b225 then chk (inb a183.From x181.length) (some (decide (0 < ((x181.getD ((a183.From).toNat) default).length : Int)))) else some false) fun j226 => bif j226 then chk (inb a183.From x181.length) ((F_26 (x181.getD ((a183.From).toNat) default)).bind fun y227 => chk (room (y227.length + [k182].length) 8) (chk (inb a183.Place x181.length) (some (x181.set ((a183.Place).toNat) (y227 ++ [k182]))))) else some x181)
noncomputable def F_1w (a_ : GEstate) (content_ : Int) (place_ : Int) (t_ : Int) : Option ((List Int) × Bool) :=
 (F_7 a_).bind fun y10 => bif (!decide (y10 = 0)) then some ([], false) else (F_4 content_).bind fun y11 => bif (!y11) then some ([], false) else (F_9 a_ place_).bind fun y12 => bif (!y12) then some ([], false) else chk (roomI a_.Places a_.Places 24) ((foldL (F_3a content_ t_) a_.Events 0 (List.replicate (a_.Places).toNat [])).bind fun x228 => chk (inb place_ x228.length) (chk (inb place_ x228.length) (some (x228.getD ((place_).toNat) default, decide (0 < ((x228.getD ((place_).toNat) default).length : Int))))))
@[irreducible] def mg_4h : List MOp := [⟨.fad 5 (.t 12), (some 56), (some (55, true))⟩,
 ⟨.ld none (.t 56), (some 57), (some (55, true))⟩,
 ⟨.mv (.t 1), (some 58), (some (55, true))⟩,
 ⟨.bin false .eql (.t 57) (.t 58), (some 59), (some (55, true))⟩,
 mo (.pick (.t 55) (.t 59) (.c (.bool false))) 60]
@[irreducible] def mg_4i : List MOp := [⟨.mv (.t 13), (some 62), (some (61, true))⟩,
 ⟨.not (.t 62), (some 63), (some (61, true))⟩,
 mo (.pick (.t 61) (.t 63) (.c (.bool false))) 64]
@[irreducible] def mg_4j : List MOp := [⟨.fad 5 (.t 12), (some 76), (some (75, true))⟩,
 ⟨.ld none (.t 76), (some 77), (some (75, true))⟩,
 ⟨.mv (.t 1), (some 78), (some (75, true))⟩,
 ⟨.bin false .eql (.t 77) (.t 78), (some 79), (some (75, true))⟩,
 mo (.pick (.t 75) (.t 79) (.c (.bool false))) 80]
@[irreducible] def mg_4k : List MOp := [⟨.mv (.t 13), (some 90), (some (89, true))⟩,
 ⟨.not (.t 90), (some 91), (some (89, true))⟩,
 mo (.pick (.t 89) (.t 91) (.c (.bool false))) 92]
@[irreducible] def mg_4l : List MOp := [⟨.mv (.t 10), (some 94), (some (93, true))⟩,
 ⟨.fad 6 (.t 12), (some 95), (some (93, true))⟩,
 ⟨.ld none (.t 95), (some 96), (some (93, true))⟩,
 ⟨.iad 1 (.t 94) (.t 96), (some 97), (some (93, true))⟩,
 ⟨.ld none (.t 97), (some 98), (some (93, true))⟩,
 ⟨.len false (.t 98), (some 99), (some (93, true))⟩,
 ⟨.bin false .gtr (.t 99) (.c (.int .i64 0)), (some 100), (some (93, true))⟩,
 mo (.pick (.t 93) (.t 100) (.c (.bool false))) 101]
@[irreducible] def mc_3a : MC :=
 (.seq (.reg [mo (.bin false .lss (.t 34) (.t 33)) 35])
 (.seq (.cond (.t 35)
 .skip
 (.exit 0))
 (.seq (.block 1
 (.seq (.reg [mo (.mv (.t 34)) 36,
 mo (.iad 7 (.t 32) (.t 34)) 37,
 mo (.ld (some 7) (.t 37)) 38,
 mo (.alloc [(.int .i64 0),(.int .i64 0),(.int .i64 0),(.int .i64 0),(.int .i64 0),(.int .i64 0),(.int .i64 0)]) 12,
 mo (.mv (.t 36)) 11,
 ⟨.st 7 (.t 12) (.t 38), none, none⟩])
 (.seq (.reg [mo (.mv (.t 10)) 39,
 mo (.fad 2 (.t 12)) 40,
 mo (.ld none (.t 40)) 41,
 mo (.iad 1 (.t 39) (.t 41)) 42,
 mo (.ld none (.t 42)) 43,
 mo (.len false (.t 43)) 44,
 mo (.bin false .gtr (.t 44) (.c (.int .i64 0))) 45,
 mo (.mv (.t 45)) 13])
 (.block 2
 (.seq (.note (.gc [1,2,3,10,11,12,13,32,33,34,56,57,58,59,62,63,76,77,78,79,90,91,94,95,96,97,98,99,100]) (.reg [mo (.fad 0 (.t 12)) 47,
 mo (.ld none (.t 47)) 48,
 mo (.mv (.t 3)) 49,
 mo (.bin false .gtr (.t 48) (.t 49)) 50,
 mo (.mv (.t 50)) 46]))
 (.cond (.t 46)
 .skip
 (.seq (.regI [.op (mo (.fad 1 (.t 12)) 52),
 .op (mo (.ld none (.t 52)) 53),
 .op (mo (.bin false .eql (.t 53) (.c (.int .i64 5))) 54),
 .op (mo (.mv (.t 54)) 55),
 .grp mg_4h,
 .op (mo (.mv (.t 60)) 61),
 .grp mg_4i,
 .op (mo (.mv (.t 64)) 51)])
 (.cond (.t 51)
 (.note (.gc [1,2,3,10,11,12,32,33,34,56,57,58,59,62,63,76,77,78,79,90,91,94,95,96,97,98,99,100]) (.reg [mo (.mv (.t 10)) 65,
 mo (.fad 2 (.t 12)) 66,
 mo (.ld none (.t 66)) 67,
 mo (.mv (.t 11)) 68,
 mo (.lsl 1 [(.t 68)]) 69,
 mo (.iad 1 (.t 65) (.t 67)) 70,
 ⟨.st 1 (.t 70) (.t 69), none, none⟩]))
 (.seq (.note (.gc [1,2,3,10,11,12,13,32,33,34,56,57,58,59,62,63,76,77,78,79,90,91,94,95,96,97,98,99,100]) (.regI [.op (mo (.fad 1 (.t 12)) 72),
 .op (mo (.ld none (.t 72)) 73),
 .op (mo (.bin false .eql (.t 73) (.c (.int .i64 6))) 74),
 .op (mo (.mv (.t 74)) 75),
 .grp mg_4j,
 .op (mo (.mv (.t 80)) 71)]))
 (.cond (.t 71)
 (.note (.gc [1,2,3,10,12,32,33,34,56,57,58,59,62,63,76,77,78,79,90,91,94,95,96,97,98,99,100]) (.reg [mo (.mv (.t 10)) 81,
 mo (.fad 2 (.t 12)) 82,
 mo (.ld none (.t 82)) 83,
 mo (.iad 1 (.t 81) (.t 83)) 84,
 ⟨.st 1 (.t 84) (.c (.sl [])), none, none⟩]))
 (.seq (.regI [.op (mo (.fad 1 (.t 12)) 86),
 .op (mo (.ld none (.t 86)) 87),
 .op (mo (.bin false .eql (.t 87) (.c (.int .i64 7))) 88),
 .op (mo (.mv (.t 88)) 89),
 .grp mg_4k,
 .op (mo (.mv (.t 92)) 93),
 .grp mg_4l,
 .op (mo (.mv (.t 101)) 85)])
 (.cond (.t 85)
 (.regD [mo (.mv (.t 10)) 102,
 mo (.fad 2 (.t 12)) 103,
 mo (.ld none (.t 103)) 104,
 mo (.mv (.t 10)) 105,
 mo (.fad 6 (.t 12)) 106,
 mo (.ld none (.t 106)) 107,
 mo (.iad 1 (.t 105) (.t 107)) 108,
 mo (.ld none (.t 108)) 109,
 mo (.call (.f 64) [(.t 109)] [] [110]) 110,
 mo (.mv (.t 11)) 111,
 mo (.bslice 1 [(.t 111)]) 112,
 mo (.app 1 8 (.t 110) (.t 112)) 113,
 mo (.iad 1 (.t 102) (.t 104)) 114,
 ⟨.mp .uss [(.t 114),(.t 113)], none, none⟩]
 [[],[],[1],[],[],[4],[3,5],[6],[7],[],[9],[8,10,8],[0,2,0,1,2,3,4,5,6,7,8,9,10,11],[12,11,11,0,1,2,3,4,5,6,7,8,9,10,11]]
 [[],[],[1],[],[],[4],[3,4,5],[3,4,5,6],[3,4,5,6,7],[],[9],[3,4,5,6,7,8,9,10,1000002],[0,1,2,3,4,5,6,7,8,9,10,11],[0,1,2,3,4,5,6,7,8,9,10,11,12]])
 .skip))))))))))))
 (.reg [mo (.bin true .add (.t 34) (.c (.int .i64 1))) 115,
 mo (.mv (.t 115)) 34]))))
def mc_1w : MC :=
 (.seq (.reg [mo (.box (.t 0)) 4,
 mo (.mv (.c (.sl []))) 8,
 mo (.mv (.c (.bool false))) 9])
 (.seq (.seq (.reg [mo (.ld (some 2) (.t 4)) 14,
 mo (.call (.f 62) [(.t 14)] [] []) 15,
 mo (.bin false .neq (.t 15) (.c (.int .i64 0))) 16,
 mo (.mv (.t 16)) 17,
 ⟨.mv (.t 1), (some 18), (some (17, false))⟩,
 ⟨.call (.f 51) [(.t 18)] [] [], (some 19), (some (17, false))⟩,
 ⟨.not (.t 19), (some 20), (some (17, false))⟩,
 mo (.pick (.t 17) (.c (.bool true)) (.t 20)) 21,
 mo (.mv (.t 21)) 22,
 ⟨.ld (some 2) (.t 4), (some 23), (some (22, false))⟩,
 ⟨.mv (.t 2), (some 24), (some (22, false))⟩,
 ⟨.call (.f 63) [(.t 23),(.t 24)] [] [], (some 25), (some (22, false))⟩,
 ⟨.not (.t 25), (some 26), (some (22, false))⟩,
 mo (.pick (.t 22) (.c (.bool true)) (.t 26)) 27])
 (.cond (.t 27)
 (.seq (.reg [mo (.mv (.c (.sl []))) 8,
 mo (.mv (.c (.bool false))) 9])
 .ret)
 .skip))
 (.seq (.note (.gc [1,2,3,4,56,57,58,59,62,63,76,77,78,79,90,91,94,95,96,97,98,99,100]) (.reg [mo (.fad 0 (.t 4)) 28,
 mo (.ld none (.t 28)) 29,
 mo (.mksl 1 24 (.sl []) (.t 29) (.t 29)) 30,
 mo (.mv (.t 30)) 10]))
 (.seq (.seq (.reg [mo (.fad 1 (.t 4)) 31,
 mo (.ld none (.t 31)) 32,
 mo (.len false (.t 32)) 33,
 mo (.mv (.c (.int .i64 0))) 34])
 (.block 0
 (.loop mc_3a)))
 (.seq (.regD [mo (.mv (.t 10)) 116,
 mo (.mv (.t 2)) 117,
 mo (.iad 1 (.t 116) (.t 117)) 118,
 mo (.ld none (.t 118)) 119,
 mo (.mv (.t 10)) 120,
 mo (.mv (.t 2)) 121,
 mo (.iad 1 (.t 120) (.t 121)) 122,
 mo (.ld none (.t 122)) 123,
 mo (.len false (.t 123)) 124,
 mo (.bin false .gtr (.t 124) (.c (.int .i64 0))) 125,
 mo (.mv (.t 119)) 8,
 mo (.mv (.t 125)) 9]
 [[],[],[0,1],[2],[],[],[4,5],[6],[7],[8],[3,0,1,2,3],[9,10,0,1,2,3,4,5,6,7,8,9,10]]
 [[],[],[0,1],[0,1,2],[],[],[4,5],[4,5,6],[4,5,6,7],[4,5,6,7,8],[0,1,2,3],[0,1,2,3,4,5,6,7,8,9,10]])
 .ret)))))
theorem Wq_1w (a_ : GEstate) (content_ : Int) (place_ : Int) (t_ : Int) {Q : (List Int) × Bool → Prop} {Q' : V → Heap → Prop} (h : Ok (F_1w a_ content_ place_ t_) Q) (hQ : ∀ z, Q z → Q' (.tup [.sl (z.1.map (V.int .i64)), .bool z.2]) []) : ACall Tryz.prog 41 [GEstate.v a_, .int .i64 content_, .int .i64 place_, .int .i64 t_] [] Q' := by
 refine acallM mc_1w [.fz 8] [] [.t 8, .t 9] Tryz.func41 fun M => ?_
 unfold F_1w at h
 unfold mc_1w
 replace h := tY h
 refine tB ?_
 repeat' (first
 | (exact tZ)
 | ((first | refine oblg h ?_ | refine roomG h ?_ | refine fork h ?_ ?_ | refine forkS h ?_ ?_) <;> clear h <;> intro hc h)
 | (obtain ⟨y, hy, h⟩ := h; (first | (with_reducible first | have hw := W_7 hy | have hw := W_4 hy | have hw := W_9 hy) | have hw := acall_swe 1900 110 (W_26 hy)); replace hw := tY hw; (first | refine M.sC hw ?_ | refine M.sD hw ?_); clear hw hy; refine tB ?_)
 | (refine M.gj1 (ms := mg_4l) [1,2,3,10,11,12,32,33,34] [12,30] (fun y => [(101, .bool y)]) (fun y => []) h ?_ ?_ <;> first
 | (clear h; intro Qn K hK1 h; unfold mg_4l; replace h := tY h; refine tB ?_)
  |(clear h; intro y h; replace h := tY h; refine tB ?_))
 | (refine M.gv1 (ms := mg_4k) 92 [90,91] h ?_ ?_ <;> first
 | (clear h; intro K hK2; unfold mg_4k; refine tB ?_)
 | (clear h; intro b h; replace h := tY h; refine tB ?_))
 | (refine M.gv1 (ms := mg_4j) 80 [76,77,78,79] h ?_ ?_ <;> first
 | (clear h; intro K hK3; unfold mg_4j; refine tB ?_)
 | (clear h; intro b h; replace h := tY h; refine tB ?_))
 | (refine M.gv1 (ms := mg_4i) 64 [62,63] h ?_ ?_ <;> first
 | (clear h; intro K hK4; unfold mg_4i; refine tB ?_)
 | (clear h; intro b h; replace h := tY h; refine tB ?_))
 | (refine M.gv1 (ms := mg_4h) 60 [56,57,58,59] h ?_ ?_ <;> first
 | (clear h; intro K hK5; unfold mg_4h; refine tB ?_)
 | (clear h; intro b h; replace h := tY h; refine tB ?_))
 | (refine M.fold1 (b := mc_3a) 34 [1,2,3,32,33] [] (fun x => [(10, .osl 30 1 0 x.length)]) (fun x => [.o 30 (.arr 1 (x.map (slV (V.int .i64))))]) [] h ?_ ?_ ?_ <;> first
 | (clear h; intro k a x Qn K hK6 hkN6 ha6 h hf; have hl := fact_int (factsE_find (n := 33) hf.1 rfl); clear hf; have hkd := kD hkN6; have hkB6 := kB hkN6; have hkI6 := kI (k := k) (by omega); unfold F_3a at h; unfold mc_3a; replace h := tY h; refine tK ha6 hkd hkN6 hkB6 hkI6 ?_)
  |(clear h; intro x K h; replace h := And.left (And.intro h trivial); unfold mc_3a; replace h := tY h; refine tB ?_)
  |(clear h; (try refine tB ?_); exact tU0; done))
 | (simp only [ha6])
 | ((first | refine hK1 _ ?_ | refine hK6 _ ?_); (try refine tB ?_); refine ⟨_, h, ?_⟩; exact tU0; done)
 | ((first | refine hK2 _ ?_ | refine hK3 _ ?_ | refine hK4 _ ?_ | refine hK5 _ ?_); exact tU; done)
 | (refine bfork (fun hc => ?_) (fun hc => ?_))
 | (refine tE ?_; (first | rw [M.lok_compU] | rw [M.lokD_compU]); refine tB ?_)
 | (refine ⟨_, getE_mapset (by first | exact inb_toNat (by assumption) | exact inb_nat (by assumption)), ?_⟩; (first | rw [M.lok_compU] | rw [M.lokD_compU] | (simp only [V.cells]; first | rw [M.lok_comp] | rw [M.lokD_comp])); refine tB ?_)
 | (refine tA ?_))
def W_1w {a_ content_ place_ t_ y} (hy : (F_1w a_ content_ place_ t_) = some y) := acW (Wq_1w a_ content_ place_ t_) hy
def F_1x (a_ : GEstate) (place_ : Int) (principal_ : Int) (t_ : Int) : Option (Int × Bool) :=
 (F_1 a_ place_).bind fun y4 => bif (!y4) then some (0, false) else (F_t a_ place_ t_).bind fun y6 => some (((aget principal_ y6).getD 0), (aget principal_ y6).isSome)
def mc_1x : MC :=
 (.seq (.reg [mo (.box (.t 0)) 4,
 mo (.mv (.c (.int .i64 0))) 8,
 mo (.mv (.c (.bool false))) 9])
 (.seq (.seq (.reg [mo (.ld (some 2) (.t 4)) 12,
 mo (.mv (.t 1)) 13,
 mo (.call (.f 68) [(.t 12),(.t 13)] [] []) 14,
 mo (.not (.t 14)) 15])
 (.cond (.t 15)
 (.seq (.reg [mo (.mv (.c (.int .i64 0))) 8,
 mo (.mv (.c (.bool false))) 9])
 .ret)
 .skip))
 (.seq (.reg [mo (.ld (some 2) (.t 4)) 17,
 mo (.mv (.t 1)) 18,
 mo (.mv (.t 3)) 19,
 mo (.call (.f 93) [(.t 17),(.t 18),(.t 19)] [] []) 20,
 mo (.mv (.t 2)) 21,
 mo (.mp (.lku (.int .i64) true (.int .i64 0)) [(.t 20),(.t 21)]) 22,
 mo (.mv (.t 22)) 16,
 mo (.ext 0 (.t 16)) 23,
 mo (.ext 1 (.t 16)) 24,
 mo (.mv (.t 23)) 10,
 mo (.mv (.t 24)) 11])
 (.seq (.note (.gc [10,11]) (.reg [mo (.mv (.t 10)) 25,
 mo (.mv (.t 11)) 26,
 mo (.mv (.t 25)) 8,
 mo (.mv (.t 26)) 9]))
 .ret))))
theorem Wq_1x (a_ : GEstate) (place_ : Int) (principal_ : Int) (t_ : Int) {Q : Int × Bool → Prop} {Q' : V → Heap → Prop} (h : Ok (F_1x a_ place_ principal_ t_) Q) (hQ : ∀ z, Q z → Q' (.tup [.int .i64 z.1, .bool z.2]) []) : ACall Tryz.prog 66 [GEstate.v a_, .int .i64 place_, .int .i64 principal_, .int .i64 t_] [] Q' := by
 refine acallM mc_1x [] [] [.t 8, .t 9] Tryz.func66 fun M => ?_
 unfold F_1x at h
 unfold mc_1x
 replace h := tY h
 refine tB ?_
 repeat' (first
 | (exact tZ)
 | ((first | refine oblg h ?_ | refine roomG h ?_ | refine fork h ?_ ?_ | refine forkS h ?_ ?_) <;> clear h <;> intro hc h)
 | (obtain ⟨y, hy, h⟩ := h; (first | with_reducible first | have hw := W_1 hy | have hw := W_t hy); replace hw := tY hw; (first | refine M.sC hw ?_ | refine M.sD hw ?_); clear hw hy; refine tB ?_)
 | (refine tE ?_; (first | rw [M.lok_compU] | rw [M.lokD_compU]); refine tB ?_)
 | (refine tA ?_))
def W_1x {a_ place_ principal_ t_ y} (hy : (F_1x a_ place_ principal_ t_) = some y) := acW (Wq_1x a_ place_ principal_ t_) hy
noncomputable def F_27 (d_ : GDirectory) (p_ : Int) (g_ : Int) (t_ : Int) : Option Bool :=
 (F_25 d_ p_ t_).bind fun y3 => (F_15 y3 g_).bind fun y4 => some y4
def mc_27 : MC :=
 (.seq (.reg [mo (.box (.t 0)) 4,
 mo (.mv (.c (.bool false))) 8])
 (.seq (.reg [mo (.ld (some 2) (.t 4)) 9,
 mo (.mv (.t 1)) 10,
 mo (.mv (.t 3)) 11,
 mo (.call (.f 114) [(.t 9),(.t 10),(.t 11)] [] []) 12,
 mo (.mv (.t 2)) 13,
 mo (.call (.f 92) [(.t 12),(.t 13)] [] []) 14,
 mo (.mv (.t 14)) 8])
 .ret))
theorem Wq_27 (d_ : GDirectory) (p_ : Int) (g_ : Int) (t_ : Int) {Q : Bool → Prop} {Q' : V → Heap → Prop} (h : Ok (F_27 d_ p_ g_ t_) Q) (hQ : ∀ z, Q z → Q' (.bool z) []) : ACall Tryz.prog 94 [GDirectory.v d_, .int .i64 p_, .int .i64 g_, .int .i64 t_] [] Q' := by
 refine acallM mc_27 [] [] [.t 8] Tryz.func94 fun M => ?_
 unfold F_27 at h
 unfold mc_27
 replace h := tY h
 refine tB ?_
 repeat' (first
 | (exact tZ)
 | ((first | refine oblg h ?_ | refine roomG h ?_ | refine fork h ?_ ?_ | refine forkS h ?_ ?_) <;> clear h <;> intro hc h)
 | (obtain ⟨y, hy, h⟩ := h; (first | with_reducible first | have hw := W_25 hy | have hw := W_15 hy); replace hw := tY hw; (first | refine M.sC hw ?_ | refine M.sD hw ?_); clear hw hy; refine tB ?_)
 | (refine tE ?_; (first | rw [M.lok_compU] | rw [M.lokD_compU]); refine tB ?_)
 | (refine tA ?_))
def W_27 {d_ p_ g_ t_ y} (hy : (F_27 d_ p_ g_ t_) = some y) := acW (Wq_27 d_ p_ g_ t_) hy
noncomputable def F_3b (k359 : Int) (a360 : Bool) (x358 : (List Int) × (List Int)) : Option ((List Int) × (List Int)) :=
 jn (α := Bool) (bif a360 then chk (inb k359 x358.2.length) (some (decide (x358.2.getD ((k359).toNat) default < 0))) else some false) fun j368 => bif j368 then chk (inb 0 x358.1.length) (chk (room (x358.1.length + [k359].length) 8) (chk (inb k359 x358.2.length) (some ((x358.1 ++ [k359]), x358.2.set ((k359).toNat) (x358.1.getD 0 default))))) else some (x358.1, x358.2)
noncomputable def F_3k (y6 : List (List Bool)) (x265 : (List Int) × (List Int)) : Option (Fl ((List Int) × (List Int)) (List Int)) :=
 bif decide (0 < (x265.1.length : Int)) then chk (inb 0 x265.1.length) (chk (inb (x265.1.getD 0 default) y6.length) ((foldL F_3b (y6.getD (x265.1.getD 0 default).toNat default) 0 (x265.1, x265.2)).bind fun x369 => chk (inc 1 (x369.1.length : Int) x369.1.length) (some (.nx ((x369.1.drop 1).take (x369.1.length - 1), x369.2))))) else some (.ex x265.2)
noncomputable def F_3l (p_ : Int) (r370 : List Int) (x382 : List Int) : Option (Fl (List Int) (List Int)) :=
 chk (inb 0 x382.length) (bif (!decide (x382.getD 0 default = p_)) then chk (inb 0 x382.length) (chk (inb (x382.getD 0 default) r370.length) ((insI x382 [r370.getD ((x382.getD 0 default).toNat) default]).bind fun y384 => some (.nx y384))) else some (.ex x382))
noncomputable def F_28 (d_ : GDirectory) (p_ : Int) (g_ : Int) (t_ : Int) : Option ((List Int) × Bool) :=
 (F_27 d_ p_ g_ t_).bind fun y4 => bif (!y4) then some ([], false) else (atF d_.Kinds.length (d_.Events.map fun e => (e.Time, e.Kind, e.Principal, e.Group)) t_).bind fun y6 => (repI [(-1)] (y6.length : Int)).bind fun y8 => chk (inb p_ y8.length) ((loop (F_3k y6) ([p_], y8.set ((p_).toNat) p_)).bind fun r370 => (loop (F_3l p_ r370) [g_]).bind fun r385 => some (r385, true))
@[irreducible] def mg_4m : List MOp := [⟨.mv (.t 11), (some 54), (some (53, true))⟩,
 ⟨.mv (.t 13), (some 55), (some (53, true))⟩,
 ⟨.iad 1 (.t 54) (.t 55), (some 56), (some (53, true))⟩,
 ⟨.ld none (.t 56), (some 57), (some (53, true))⟩,
 ⟨.bin false .lss (.t 57) (.c (.int .i64 0)), (some 58), (some (53, true))⟩,
 mo (.pick (.t 53) (.t 58) (.c (.bool false))) 59]
@[irreducible] def mc_3b : MC :=
 (.seq (.reg [mo (.bin false .lss (.t 47) (.t 46)) 48])
 (.seq (.cond (.t 48)
 .skip
 (.exit 2))
 (.seq (.block 3
 (.seq (.reg [mo (.mv (.t 47)) 49,
 mo (.iad 1 (.t 45) (.t 47)) 50,
 mo (.ld none (.t 50)) 51,
 mo (.mv (.t 49)) 13,
 mo (.mv (.t 51)) 14])
 (.seq (.regI [.op (mo (.mv (.t 14)) 52),
 .op (mo (.mv (.t 52)) 53),
 .grp mg_4m])
 (.cond (.t 59)
 (.regD [mo (.mv (.t 11)) 60,
 mo (.mv (.t 13)) 61,
 mo (.mv (.t 12)) 62,
 mo (.iad 1 (.t 62) (.c (.int .i64 0))) 63,
 mo (.ld none (.t 63)) 64,
 mo (.mv (.t 12)) 65,
 mo (.mv (.t 13)) 66,
 mo (.bslice 1 [(.t 66)]) 67,
 mo (.app 1 8 (.t 65) (.t 67)) 68,
 mo (.iad 1 (.t 60) (.t 61)) 69,
 ⟨.st 1 (.t 69) (.t 64), none, none⟩,
 mo (.mv (.t 68)) 12]
 [[],[],[],[2],[3],[],[],[6],[5,7],[0,1,0,1,2,3,4,8],[9,4,8,0,1,2,3,4,8],[8,10,0,1,2,3,4,5,6,7,8,9,10]]
 [[],[],[],[2],[2,3],[],[],[6],[5,6,7,1000004],[0,1,2,3,4,5,6,7,8],[0,1,2,3,4,5,6,7,8,9],[0,1,2,3,4,5,6,7,8,9,10]])
 .skip))))
 (.reg [mo (.bin true .add (.t 47) (.c (.int .i64 1))) 70,
 mo (.mv (.t 70)) 47]))))
@[irreducible] def mc_3k : MC :=
 (.seq (.seq (.reg [mo (.mv (.t 12)) 35,
 mo (.len false (.t 35)) 36,
 mo (.bin false .gtr (.t 36) (.c (.int .i64 0))) 37])
 (.cond (.t 37)
 .skip
 (.exit 0)))
 (.seq (.block 1
 (.seq (.reg [mo (.mv (.t 10)) 40,
 mo (.mv (.t 12)) 41,
 mo (.iad 1 (.t 41) (.c (.int .i64 0))) 42,
 mo (.ld none (.t 42)) 43,
 mo (.iad 1 (.t 40) (.t 43)) 44,
 mo (.ld none (.t 44)) 45,
 mo (.len false (.t 45)) 46,
 mo (.mv (.c (.int .i64 0))) 47])
 (.block 2
 (.loop mc_3b))))
 (.reg [mo (.mv (.t 12)) 38,
 mo (.slc 1 (.t 38) (some (.c (.int .i64 1))) none) 39,
 mo (.mv (.t 39)) 12])))
@[irreducible] def mc_3l : MC :=
 (.seq (.seq (.reg [mo (.mv (.t 15)) 73,
 mo (.iad 1 (.t 73) (.c (.int .i64 0))) 74,
 mo (.ld none (.t 74)) 75,
 mo (.mv (.t 1)) 76,
 mo (.bin false .neq (.t 75) (.t 76)) 77])
 (.cond (.t 77)
 .skip
 (.exit 4)))
 (.block 5
 (.reg [mo (.mv (.t 15)) 78,
 mo (.mv (.t 11)) 79,
 mo (.mv (.t 15)) 80,
 mo (.iad 1 (.t 80) (.c (.int .i64 0))) 81,
 mo (.ld none (.t 81)) 82,
 mo (.iad 1 (.t 79) (.t 82)) 83,
 mo (.ld none (.t 83)) 84,
 mo (.bslice 1 [(.t 84)] true) 85,
 mo (.call (.f 97) [(.t 78),(.c (.int .i64 0)),(.t 85)] [2015,85] [86]) 86,
 mo (.mv (.t 86)) 15])))
def mc_28 : MC :=
 (.seq (.reg [mo (.box (.t 0)) 4,
 mo (.mv (.c (.sl []))) 8,
 mo (.mv (.c (.bool false))) 9])
 (.seq (.seq (.reg [mo (.ld (some 2) (.t 4)) 16,
 mo (.mv (.t 1)) 17,
 mo (.mv (.t 2)) 18,
 mo (.mv (.t 3)) 19,
 mo (.call (.f 94) [(.t 16),(.t 17),(.t 18),(.t 19)] [] []) 20,
 mo (.not (.t 20)) 21])
 (.cond (.t 21)
 (.seq (.reg [mo (.mv (.c (.sl []))) 8,
 mo (.mv (.c (.bool false))) 9])
 .ret)
 .skip))
 (.seq (.note (.gc [1,2,3,4,54,55,56,57,58]) (.reg [mo (.ld (some 2) (.t 4)) 22,
 mo (.mv (.t 3)) 23,
 mo (.call (.f 95) [(.t 22),(.t 23)] [] []) 24,
 mo (.mv (.t 24)) 10]))
 (.seq (.reg [mo (.lsl 1 [(.c (.int .i64 (-1)))]) 25,
 mo (.mv (.t 10)) 26,
 mo (.len false (.t 26)) 27,
 mo (.call (.f 96) [(.t 25),(.t 27)] [] [28]) 28,
 mo (.mv (.t 28)) 11])
 (.seq (.note (.gc [1,2,10,11,54,55,56,57,58]) (.reg [mo (.mv (.t 11)) 29,
 mo (.mv (.t 1)) 30,
 mo (.mv (.t 1)) 31,
 mo (.iad 1 (.t 29) (.t 30)) 32,
 ⟨.st 1 (.t 32) (.t 31), none, none⟩]))
 (.seq (.seq (.reg [mo (.mv (.t 1)) 33,
 mo (.bslice 1 [(.t 33)]) 34,
 mo (.mv (.t 34)) 12])
 (.block 0
 (.loop mc_3k)))
 (.seq (.reg [mo (.mv (.t 2)) 71,
 mo (.bslice 1 [(.t 71)]) 72,
 mo (.mv (.t 72)) 15])
 (.seq (.block 4
 (.loop mc_3l))
 (.seq (.reg [mo (.mv (.t 15)) 87,
 mo (.mv (.t 87)) 8,
 mo (.mv (.c (.bool true))) 9])
 .ret)))))))))
theorem Wq_28 (d_ : GDirectory) (p_ : Int) (g_ : Int) (t_ : Int) {Q : (List Int) × Bool → Prop} {Q' : V → Heap → Prop} (h : Ok (F_28 d_ p_ g_ t_) Q) (hQ : ∀ z, Q z → Q' (.tup [.sl (z.1.map (V.int .i64)), .bool z.2]) []) : ACall Tryz.prog 67 [GDirectory.v d_, .int .i64 p_, .int .i64 g_, .int .i64 t_] [] Q' := by
 refine acallM mc_28 [.fz 8] [] [.t 8, .t 9] Tryz.func67 fun M => ?_
 unfold F_28 at h
 unfold mc_28
 replace h := tY h
 refine tB ?_
 repeat' (first
 | (exact tZ)
 | ((first | refine oblg h ?_ | refine roomG h ?_ | refine fork h ?_ ?_ | refine forkS h ?_ ?_) <;> clear h <;> intro hc h)
 | (obtain ⟨y, hy, h⟩ := h; have hw := acall_swe 1900 86 (acall_swe 1001 85 (acall_swe 1000 72 (W_6i hy))); replace hw := tY hw; (first | refine M.sC hw ?_ | refine M.sD hw ?_); clear hw hy; refine tB ?_)
 | (obtain ⟨y, hy, h⟩ := h; have hw := acall_swe 1900 86 (acall_swe 1001 85 (acall_swe 1000 2015 (W_6i hy))); replace hw := tY hw; (first | refine M.sC hw ?_ | refine M.sD hw ?_); clear hw hy; refine tB ?_)
 | (obtain ⟨y, hy, h⟩ := h; (first | (with_reducible first | have hw := W_27 hy) | have hw := W_at (f := GMember.v) (e4 := fun e => (e.Time, e.Kind, e.Principal, e.Group)) (fun _ => rfl) hy | have hw := acall_swe 1900 28 (W_6k hy)); replace hw := tY hw; (first | refine M.sC hw ?_ | refine M.sD hw ?_); clear hw hy; refine tB ?_)
 | (refine M.gj1 (ms := mg_4m) [1,2,10,11,12,13,45,46,47] [2012,28] (fun y => [(59, .bool y)]) (fun y => []) h ?_ ?_ <;> first
 | (clear h; intro Qn K hK1 h; unfold mg_4m; replace h := tY h; refine tB ?_)
  |(clear h; intro y h; replace h := tY h; refine tB ?_))
 | (refine M.fold1 (b := mc_3b) 47 [1,2,10,45,46] [] (fun x => [(11, .osl 28 1 0 x.2.length), (12, .osl 2012 1 0 x.1.length)]) (fun x => [.o 2012 (.arr 1 (x.1.map (V.int .i64))), .o 28 (.arr 1 (x.2.map (V.int .i64)))]) [.gc [1,2,10,11,12,45,46,47], .acc 12 2012 1] h ?_ ?_ ?_ <;> first
 | (clear h; intro k a x Qn K hK2 hkN2 ha2 h hf; have hl := fact_int (factsE_find (n := 46) hf.1 rfl); clear hf; have hkd := kD hkN2; have hkB2 := kB hkN2; have hkI2 := kI (k := k) (by omega); unfold F_3b at h; unfold mc_3b; replace h := tY h; refine tK ha2 hkd hkN2 hkB2 hkI2 ?_)
  |(clear h; intro x K h; replace h := And.left (And.intro h trivial); unfold mc_3b; replace h := tY h; refine tB ?_)
  |(clear h; (try refine tB ?_); exact tU0; done))
 | (refine M.wh1 (b := mc_3k) [1,2,10] [] (fun x => [(11, .osl 28 1 0 x.2.length), (12, .osl 2012 1 0 x.1.length)]) (fun x => [.o 2012 (.arr 1 (x.1.map (V.int .i64))), .o 28 (.arr 1 (x.2.map (V.int .i64)))]) [.gc [1,2,10,11,12], .trim 12, .acc 12 2012 1] h ?_ ?_ <;> first
 | (clear h; intro x Qn K hK3 h; unfold F_3k at h; unfold mc_3k; replace h := tY h; refine tB ?_)
  |(clear h; (try refine tB ?_); exact tU0; done))
 | (refine M.wh1 (b := mc_3l) [1,11] [28] (fun x => [(15, .osl 2015 1 0 x.length)]) (fun x => [.o 2015 (.arr 1 (x.map (V.int .i64)))]) [.gc [1,11,15], .acc 15 2015 1] h ?_ ?_ <;> first
 | (clear h; intro x Qn K hK4 h; unfold F_3l at h; unfold mc_3l; replace h := tY h; refine tB ?_)
  |(clear h; (try refine tB ?_); exact tU0; done))
 | (simp only [ha2])
 | ((first | refine hK1 _ ?_ | refine hK2 _ ?_ | refine hK3 _ ?_ | refine hK4 _ ?_); (try refine tB ?_); refine ⟨_, h, ?_⟩; exact tU0; done)
 | (refine tE ?_; (first | rw [M.lok_compU] | rw [M.lokD_compU]); refine tB ?_)
 | (refine ⟨_, getE_mapset (by first | exact inb_toNat (by assumption) | exact inb_nat (by assumption)), ?_⟩; (first | rw [M.lok_compU] | rw [M.lokD_compU] | (simp only [V.cells]; first | rw [M.lok_comp] | rw [M.lokD_comp])); refine tB ?_)
 | (refine tA ?_))
def W_28 {d_ p_ g_ t_ y} (hy : (F_28 d_ p_ g_ t_) = some y) := acW (Wq_28 d_ p_ g_ t_) hy
noncomputable def F_1j (d_ : GDirectory) (a_ : GEstate) (p_ : Int) (place_ : Int) (t_ : Int) : Option (GReading × Bool) :=
 (F_u d_ a_ p_ place_ t_).bind fun y4 => bif (!y4) then some ((GReading.mk 0 0 0 0 []), false) else (F_6 a_ place_ t_).bind fun y8 => bif y8.2 then some ((GReading.mk place_ t_ y8.1 (-1) []), true) else (F_n d_ a_ p_ place_ t_).bind fun y10 => (F_1x a_ place_ y10.1 t_).bind fun y12 => jn (α := GReading) (bif (!decide (y10.1 = p_)) then (F_28 d_ p_ y10.1 t_).bind fun y15 => some (GReading.mk place_ t_ (-1) y12.1 y15.1) else some (GReading.mk place_ t_ (-1) y12.1 [p_])) fun j14 => some (j14, true)
@[irreducible] def mc_4n : MC :=
 (.seq (.reg [mo (.ld (some 5) (.t 16)) 72,
 ⟨.st 5 (.t 10) (.t 72), none, none⟩,
 mo (.mv (.c (.bool true))) 11])
 .ret)
def mc_1j : MC :=
 (.seq (.reg [mo (.box (.t 0)) 5,
 mo (.box (.t 1)) 6,
 mo (.alloc [(.int .i64 0),(.int .i64 0),(.int .i64 0),(.int .i64 0),(.sl [])]) 10,
 mo (.mv (.c (.bool false))) 11])
 (.seq (.seq (.reg [mo (.ld (some 2) (.t 5)) 17,
 mo (.ld (some 2) (.t 6)) 18,
 mo (.mv (.t 2)) 19,
 mo (.mv (.t 3)) 20,
 mo (.mv (.t 4)) 21,
 mo (.call (.f 61) [(.t 17),(.t 18),(.t 19),(.t 20),(.t 21)] [] []) 22,
 mo (.not (.t 22)) 23])
 (.cond (.t 23)
 (.seq (.note (.gc [10]) (.reg [mo (.build [(.int .i64 0),(.int .i64 0),(.int .i64 0),(.int .i64 0),(.sl [])] []) 24,
 ⟨.st 5 (.t 10) (.t 24), none, none⟩,
 mo (.mv (.c (.bool false))) 11]))
 .ret)
 .skip))
 (.seq (.seq (.note (.gc [2,3,4,5,6,10]) (.reg [mo (.ld (some 2) (.t 6)) 26,
 mo (.mv (.t 3)) 27,
 mo (.mv (.t 4)) 28,
 mo (.call (.f 43) [(.t 26),(.t 27),(.t 28)] [] []) 29,
 mo (.mv (.t 29)) 25,
 mo (.ext 0 (.t 25)) 30,
 mo (.ext 1 (.t 25)) 31,
 mo (.mv (.t 30)) 12,
 mo (.mv (.t 31)) 13]))
 (.seq (.reg [mo (.mv (.t 13)) 32])
 (.cond (.t 32)
 (.seq (.note (.gc [3,4,10,12]) (.reg [mo (.mv (.t 3)) 33,
 mo (.mv (.t 4)) 34,
 mo (.mv (.t 12)) 35,
 mo (.build [(.int .i64 0),(.int .i64 0),(.int .i64 0),(.int .i64 0),(.sl [])] [(0,1,(.t 33)), (1,1,(.t 34)), (2,1,(.t 35)), (3,1,(.c (.int .i64 (-1))))]) 36,
 ⟨.st 5 (.t 10) (.t 36), none, none⟩,
 mo (.mv (.c (.bool true))) 11]))
 .ret)
 .skip)))
 (.seq (.note (.gc [2,3,4,5,6,10]) (.reg [mo (.ld (some 2) (.t 5)) 38,
 mo (.ld (some 2) (.t 6)) 39,
 mo (.mv (.t 2)) 40,
 mo (.mv (.t 3)) 41,
 mo (.mv (.t 4)) 42,
 mo (.call (.f 65) [(.t 38),(.t 39),(.t 40),(.t 41),(.t 42)] [] []) 43,
 mo (.mv (.t 43)) 37,
 mo (.ext 0 (.t 37)) 44,
 mo (.ext 1 (.t 37)) 45,
 mo (.mv (.t 44)) 14,
 mo (.mv (.t 45)) 15]))
 (.seq (.note (.gc [2,3,4,5,6,10,14]) (.reg [mo (.mv (.t 3)) 46,
 mo (.mv (.t 4)) 47,
 mo (.mv (.t 2)) 48,
 mo (.bslice 1 [(.t 48)]) 49,
 mo (.build [(.int .i64 0),(.int .i64 0),(.int .i64 0),(.int .i64 0),(.sl [])] [(0,1,(.t 46)), (1,1,(.t 47)), (2,1,(.c (.int .i64 (-1)))), (4,1,(.t 49))]) 50,
 mo (.alloc [(.int .i64 0),(.int .i64 0),(.int .i64 0),(.int .i64 0),(.sl [])]) 16,
 ⟨.st 5 (.t 16) (.t 50), none, none⟩]))
 (.seq (.reg [mo (.ld (some 2) (.t 6)) 52,
 mo (.mv (.t 3)) 53,
 mo (.mv (.t 14)) 54,
 mo (.mv (.t 4)) 55,
 mo (.call (.f 66) [(.t 52),(.t 53),(.t 54),(.t 55)] [] []) 56,
 mo (.mv (.t 56)) 51,
 mo (.ext 0 (.t 51)) 57,
 mo (.ext 1 (.t 51)) 58,
 mo (.fad 3 (.t 16)) 59,
 ⟨.st 1 (.t 59) (.t 57), none, none⟩])
 (.cut (.seq (.note (.gc [2,4,5,10,14,16]) (.reg [mo (.mv (.t 14)) 60,
 mo (.mv (.t 2)) 61,
 mo (.bin false .neq (.t 60) (.t 61)) 62]))
 (.cond (.t 62)
 (.reg [mo (.ld (some 2) (.t 5)) 64,
 mo (.mv (.t 2)) 65,
 mo (.mv (.t 14)) 66,
 mo (.mv (.t 4)) 67,
 mo (.call (.f 67) [(.t 64),(.t 65),(.t 66),(.t 67)] [] []) 68,
 mo (.mv (.t 68)) 63,
 mo (.ext 0 (.t 63)) 69,
 mo (.ext 1 (.t 63)) 70,
 mo (.fad 4 (.t 16)) 71,
 ⟨.st 1 (.t 71) (.t 69), none, none⟩])
 .skip))
 mc_4n)))))))
theorem Wq_1j (d_ : GDirectory) (a_ : GEstate) (p_ : Int) (place_ : Int) (t_ : Int) {Q : GReading × Bool → Prop} {Q' : V → Heap → Prop} (h : Ok (F_1j d_ a_ p_ place_ t_) Q) (hQ : ∀ z, Q z → Q' (.tup [GReading.v z.1, .bool z.2]) []) : ACall Tryz.prog 42 [GDirectory.v d_, GEstate.v a_, .int .i64 p_, .int .i64 place_, .int .i64 t_] [] Q' := by
 refine acallM mc_1j [.fzc 10] [] [.c 10 (some 5), .t 11] Tryz.func42 fun M => ?_
 unfold F_1j at h
 unfold mc_1j
 replace h := tY h
 refine tB ?_
 repeat' (first
 | (exact tZ)
 | ((first | refine oblg h ?_ | refine roomG h ?_ | refine fork h ?_ ?_ | refine forkS h ?_ ?_) <;> clear h <;> intro hc h)
 | (obtain ⟨y, hy, h⟩ := h; (first | with_reducible first | have hw := W_u hy | have hw := W_6 hy | have hw := W_n hy | have hw := W_1x hy | have hw := W_28 hy); replace hw := tY hw; (first | refine M.sC hw ?_ | refine M.sD hw ?_); clear hw hy; refine tB ?_)
 | (refine M.jn1 (b := mc_4n) [10,16] [10] (fun y => []) (fun y => [.o 16 (.cells [.int .i64 y.Place, .int .i64 y.Time, .int .i64 y.Link, .int .i64 y.Grant, .sl (y.Chain.map (V.int .i64))])]) [.fzc 16] h ?_ ?_ <;> first
 | (clear h; intro Qn K hK1 h; replace h := tY h; refine tB ?_)
  |(clear h; intro y h; unfold mc_4n; replace h := tY h; refine tB ?_))
 | (refine hK1 _ ?_; (try refine tB ?_); refine ⟨_, h, ?_⟩; exact tU0; done)
 | (refine tE ?_; (first | rw [M.lok_compU] | rw [M.lokD_compU]); refine tB ?_)
 | (refine tA ?_))
def W_1j {d_ a_ p_ place_ t_ y} (hy : (F_1j d_ a_ p_ place_ t_) = some y) := acW (Wq_1j d_ a_ p_ place_ t_) hy
noncomputable def F_1k (d_ : GDirectory) (a_ : GEstate) (content_ : Int) (p_ : Int) : Option (GLeak × Bool) :=
 (F_x d_ a_ content_ p_).bind fun y2 => bif (!y2.2) then some ((GLeak.mk [] (GReading.mk 0 0 0 0 [])), false) else (F_g d_ a_ content_ p_ y2.1).bind fun y4 => (F_1w a_ content_ y4.1 y2.1).bind fun y6 => bif (!decide (p_ = (-1))) then (F_1j d_ a_ p_ y4.1 y2.1).bind fun y10 => some ((GLeak.mk y6.1 y10.1), true) else (F_6 a_ y4.1 y2.1).bind fun y12 => some ((GLeak.mk y6.1 (GReading.mk y4.1 y2.1 y12.1 (-1) [])), true)
def mc_1k : MC :=
 (.seq (.reg [mo (.box (.t 0)) 4,
 mo (.box (.t 1)) 5,
 mo (.alloc [(.sl []),(.int .i64 0),(.int .i64 0),(.int .i64 0),(.int .i64 0),(.sl [])]) 8,
 mo (.mv (.c (.bool false))) 9])
 (.seq (.reg [mo (.ld (some 2) (.t 4)) 21,
 mo (.ld (some 2) (.t 5)) 22,
 mo (.mv (.t 2)) 23,
 mo (.mv (.t 3)) 24,
 mo (.call (.f 12) [(.t 21),(.t 22),(.t 23),(.t 24)] [] []) 25,
 mo (.mv (.t 25)) 20,
 mo (.ext 0 (.t 20)) 26,
 mo (.ext 1 (.t 20)) 27,
 mo (.mv (.t 26)) 10,
 mo (.mv (.t 27)) 11])
 (.seq (.seq (.reg [mo (.mv (.t 11)) 28,
 mo (.not (.t 28)) 29])
 (.cond (.t 29)
 (.seq (.note (.gc [8]) (.reg [mo (.build [(.sl []),(.int .i64 0),(.int .i64 0),(.int .i64 0),(.int .i64 0),(.sl [])] []) 30,
 ⟨.st 6 (.t 8) (.t 30), none, none⟩,
 mo (.mv (.c (.bool false))) 9]))
 .ret)
 .skip))
 (.seq (.note (.gc [2,3,4,5,8,10]) (.reg [mo (.ld (some 2) (.t 4)) 32,
 mo (.ld (some 2) (.t 5)) 33,
 mo (.mv (.t 2)) 34,
 mo (.mv (.t 3)) 35,
 mo (.mv (.t 10)) 36,
 mo (.call (.f 35) [(.t 32),(.t 33),(.t 34),(.t 35),(.t 36)] [] []) 37,
 mo (.mv (.t 37)) 31,
 mo (.ext 0 (.t 31)) 38,
 mo (.ext 1 (.t 31)) 39,
 mo (.mv (.t 38)) 12,
 mo (.mv (.t 39)) 13]))
 (.seq (.note (.gc [2,3,4,5,8,10,12]) (.reg [mo (.ld (some 2) (.t 5)) 41,
 mo (.mv (.t 2)) 42,
 mo (.mv (.t 12)) 43,
 mo (.mv (.t 10)) 44,
 mo (.call (.f 41) [(.t 41),(.t 42),(.t 43),(.t 44)] [] []) 45,
 mo (.mv (.t 45)) 40,
 mo (.ext 0 (.t 40)) 46,
 mo (.ext 1 (.t 40)) 47,
 mo (.mv (.t 46)) 14,
 mo (.mv (.t 47)) 15]))
 (.seq (.seq (.reg [mo (.mv (.t 3)) 48,
 mo (.bin false .neq (.t 48) (.c (.int .i64 (-1)))) 49])
 (.cond (.t 49)
 (.seq (.note (.gc [3,4,5,8,10,12,14]) (.reg [mo (.ld (some 2) (.t 4)) 51,
 mo (.ld (some 2) (.t 5)) 52,
 mo (.mv (.t 3)) 53,
 mo (.mv (.t 12)) 54,
 mo (.mv (.t 10)) 55,
 mo (.call (.f 42) [(.t 51),(.t 52),(.t 53),(.t 54),(.t 55)] [] []) 56,
 mo (.mv (.t 56)) 50,
 mo (.ext 0 (.t 50)) 57,
 mo (.ext 1 (.t 50)) 58,
 mo (.alloc [(.int .i64 0),(.int .i64 0),(.int .i64 0),(.int .i64 0),(.sl [])]) 16,
 ⟨.st 5 (.t 16) (.t 57), none, none⟩,
 mo (.mv (.t 58)) 17]))
 (.seq (.note (.gc [8,14,16]) (.reg [mo (.mv (.t 14)) 59,
 mo (.ld (some 5) (.t 16)) 60,
 mo (.build [(.sl []),(.int .i64 0),(.int .i64 0),(.int .i64 0),(.int .i64 0),(.sl [])] [(0,1,(.t 59)), (1,5,(.t 60))]) 61,
 ⟨.st 6 (.t 8) (.t 61), none, none⟩,
 mo (.mv (.c (.bool true))) 9]))
 .ret))
 .skip))
 (.seq (.note (.gc [5,8,10,12,14]) (.reg [mo (.ld (some 2) (.t 5)) 63,
 mo (.mv (.t 12)) 64,
 mo (.mv (.t 10)) 65,
 mo (.call (.f 43) [(.t 63),(.t 64),(.t 65)] [] []) 66,
 mo (.mv (.t 66)) 62,
 mo (.ext 0 (.t 62)) 67,
 mo (.ext 1 (.t 62)) 68,
 mo (.mv (.t 67)) 18,
 mo (.mv (.t 68)) 19]))
 (.seq (.note (.gc [8,10,12,14,18]) (.reg [mo (.mv (.t 14)) 69,
 mo (.mv (.t 12)) 70,
 mo (.mv (.t 10)) 71,
 mo (.mv (.t 18)) 72,
 mo (.build [(.int .i64 0),(.int .i64 0),(.int .i64 0),(.int .i64 0),(.sl [])] [(0,1,(.t 70)), (1,1,(.t 71)), (2,1,(.t 72)), (3,1,(.c (.int .i64 (-1))))]) 73,
 mo (.build [(.sl []),(.int .i64 0),(.int .i64 0),(.int .i64 0),(.int .i64 0),(.sl [])] [(0,1,(.t 69)), (1,5,(.t 73))]) 74,
 ⟨.st 6 (.t 8) (.t 74), none, none⟩,
 mo (.mv (.c (.bool true))) 9]))
 .ret))))))))
theorem Wq_1k (d_ : GDirectory) (a_ : GEstate) (content_ : Int) (p_ : Int) {Q : GLeak × Bool → Prop} {Q' : V → Heap → Prop} (h : Ok (F_1k d_ a_ content_ p_) Q) (hQ : ∀ z, Q z → Q' (.tup [GLeak.v z.1, .bool z.2]) []) : ACall Tryz.prog 22 [GDirectory.v d_, GEstate.v a_, .int .i64 content_, .int .i64 p_] [] Q' := by
 refine acallM mc_1k [.fzc 8] [] [.c 8 (some 6), .t 9] Tryz.func22 fun M => ?_
 unfold F_1k at h
 unfold mc_1k
 replace h := tY h
 refine tB ?_
 repeat' (first
 | (exact tZ)
 | ((first | refine oblg h ?_ | refine roomG h ?_ | refine fork h ?_ ?_ | refine forkS h ?_ ?_) <;> clear h <;> intro hc h)
 | (obtain ⟨y, hy, h⟩ := h; (first | with_reducible first | have hw := W_x hy | have hw := W_g hy | have hw := W_1w hy | have hw := W_1j hy | have hw := W_6 hy); replace hw := tY hw; (first | refine M.sC hw ?_ | refine M.sD hw ?_); clear hw hy; refine tB ?_)
 | (refine tE ?_; (first | rw [M.lok_compU] | rw [M.lokD_compU]); refine tB ?_)
 | (refine tA ?_))
def W_1k {d_ a_ content_ p_ y} (hy : (F_1k d_ a_ content_ p_) = some y) := acW (Wq_1k d_ a_ content_ p_) hy
end Go.Ab
