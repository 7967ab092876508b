/- What the functions of this seat that lie on the laws' road compute (part LPub), each for every input. By AI agents. -/
import Derived.Test.YtgjicmoegmbipaaGreatProg
import Derived.KernelRfl
import Derived.Test.YtgjicmoegmbipaaGreatAbFun
import Derived.Test.YtgjicmoegmbipaaGreatLC
set_option linter.all false
set_option linter.all false
set_option maxRecDepth 20000
set_option maxHeartbeats 2000000
namespace Go.Ab
open Go.Proofs
theorem inbk_1 {n : Nat} : (inb 1 n = true) = (((1 : Nat) : Int) < (n : Int)) := propext (by rw [inb_iff]; omega)
attribute [go_sem] inbk_1
def F_exposure_First_1 (x_ : GExposure) (y_ : GExposure) : Option Int :=
 chk (in64 (x_.Time - y_.Time)) (some (x_.Time - y_.Time))
def mc_exposure_First_1 : MC :=
 (.seq (.reg [mo (.box (.t 0)) 2,
 mo (.box (.t 1)) 3,
 mo (.mv (.c (.int .i64 0))) 4])
 (.seq (.reg [mo (.fad 1 (.t 2)) 5,
 mo (.ld none (.t 5)) 6,
 mo (.fad 1 (.t 3)) 7,
 mo (.ld none (.t 7)) 8,
 mo (.bin true .sub (.t 6) (.t 8)) 9,
 mo (.mv (.t 9)) 4])
 .ret))
theorem ok_exposure_First_1 : mc_exposure_First_1.ok Tryz.prog Tryz.f37.ntmps (Tryz.f37.body.getD .skip) = true := by kernel_rfl
theorem Wq_exposure_First_1 (x_ : GExposure) (y_ : GExposure) {Q : Int → Prop} {Q' : V → Heap → Prop} (h : Ok (F_exposure_First_1 x_ y_) Q) (hQ : ∀ z, Q z → Q' (.int .i64 z) []) : ACall Tryz.prog 37 [GExposure.v x_, GExposure.v y_] [] Q' := by
 refine acall_machN [] [] [.t 4] Tryz.func37 rfl (by kernel_rfl) ok_exposure_First_1 (by kernel_rfl) rfl rfl fun M hf => ?_
 clear hf
 unfold F_exposure_First_1 at h
 unfold mc_exposure_First_1
 (try replace h := tH h)
 refine tB ?_
 repeat' (first
 |(exact hQ _ h)
 |(exact trivial)
 |(exact False.elim h)
 |(have hq := hQ _ h; replace hq := tH hq; exact hq)
 |((first | refine oblg h ?_ | refine roomG h ?_ | refine fork h ?_ ?_ | refine forkS h ?_ ?_) <;> clear h <;> intro hc h)
 |(refine And.intro (chkD_of rfl) ?_)
 |(refine ⟨_, getE_map (inb_toNat (by assumption)), ?_⟩; (first | rw [M.lok_compU] | rw [M.lokD_compU]); refine tB ?_)
 |(refine And.intro (ltb_of (by assumption)) ?_)
 |(refine And.intro (inb_nat (by assumption)) ?_)
 |(refine And.intro (by omega) ?_)
   | fail)
theorem W_exposure_First_1 : ∀ {x_ : GExposure} {y_ : GExposure} {y : Int}, F_exposure_First_1 x_ y_ = some y → ACall Tryz.prog 37 [GExposure.v x_, GExposure.v y_] [] (fun r H => r = .int .i64 y ∧ H = []) :=
 fun hy => Wq_exposure_First_1 _ _ (Q := (· = _)) ⟨_, hy, rfl⟩ fun | _, rfl => ⟨rfl, rfl⟩
noncomputable def F_slices_MinFunc_api_Exposure_api_Exposure_of_exposure_First_1_L1 (x_ : List GExposure) (x37 : Int × GExposure) : Option (Fl (Int × GExposure) GExposure) :=
 bif decide (x37.1 < (x_.length : Int)) then jn (α := GExposure) (chk (inb x37.1 x_.length) ((F_exposure_First_1 (x_.getD (x37.1).toNat default) x37.2).bind fun y47 => bif decide (y47 < 0) then chk (inb x37.1 x_.length) (some (x_.getD (x37.1).toNat default)) else some x37.2)) fun j45 => chk (in64 (x37.1 + 1)) (some (.nx ((x37.1 + 1), j45))) else some (.ex x37.2)
noncomputable def F_slices_MinFunc_api_Exposure_api_Exposure_of_exposure_First_1 (x_ : List GExposure) : Option GExposure :=
 bif decide ((x_.length : Int) < 1) then none else chk (inb 0 x_.length) ((loop (F_slices_MinFunc_api_Exposure_api_Exposure_of_exposure_First_1_L1 x_) (1, (x_.getD 0 default))).bind fun r48 => some r48)
@[irreducible] def mc_slices_MinFunc_api_Exposure_api_Exposure_of_exposure_First_1_J1 : MC :=
 (.reg [mo (.mv (.t 6)) 18,
 mo (.bin true .add (.t 18) (.c (.int .i64 1))) 19,
 mo (.mv (.t 19)) 6])
@[irreducible] def mc_slices_MinFunc_api_Exposure_api_Exposure_of_exposure_First_1_L1 : MC :=
 (.seq (.seq (.reg [mo (.mv (.t 6)) 14,
 mo (.mv (.t 0)) 15,
 mo (.len false (.t 15)) 16,
 mo (.bin false .lss (.t 14) (.t 16)) 17])
 (.cond (.t 17)
 .skip
 (.exit 0)))
 (.cut (.block 1
 (.seq (.regD [mo (.mv (.t 1)) 20,
 mo (.mv (.t 0)) 21,
 mo (.mv (.t 6)) 22,
 mo (.iad 2 (.t 21) (.t 22)) 23,
 mo (.ld (some 2) (.t 23)) 24,
 mo (.ld (some 2) (.t 5)) 25,
 mo (.call (.t 20) [(.t 24), (.t 25)] [] []) 26,
 mo (.bin false .lss (.t 26) (.c (.int .i64 0))) 27]
 [[], [], [], [1, 2], [3], [], [0, 4, 5], [6]]
 [[], [], [], [1, 2], [1, 2, 3], [], [0, 1, 2, 3, 4, 5], [0, 1, 2, 3, 4, 5, 6]])
 (.cond (.t 27)
 (.note (.gc [0, 1, 4, 5, 6]) (.reg [mo (.mv (.t 0)) 28,
 mo (.mv (.t 6)) 29,
 mo (.iad 2 (.t 28) (.t 29)) 30,
 mo (.ld (some 2) (.t 30)) 31,
 ⟨.st 2 (.t 5) (.t 31), none, none⟩]))
 .skip)))
 mc_slices_MinFunc_api_Exposure_api_Exposure_of_exposure_First_1_J1))
def mc_slices_MinFunc_api_Exposure_api_Exposure_of_exposure_First_1 : MC :=
 (.seq (.reg [mo (.alloc [(.int .i64 0), (.int .i64 0)]) 4])
 (.seq (.seq (.reg [mo (.mv (.t 0)) 7,
 mo (.len false (.t 7)) 8,
 mo (.bin false .lss (.t 8) (.c (.int .i64 1))) 9])
 (.cond (.t 9)
 .no
 .skip))
 (.seq (.reg [mo (.mv (.t 0)) 11,
 mo (.iad 2 (.t 11) (.c (.int .i64 0))) 12,
 mo (.ld (some 2) (.t 12)) 13,
 mo (.alloc [(.int .i64 0), (.int .i64 0)]) 5,
 ⟨.st 2 (.t 5) (.t 13), none, none⟩])
 (.seq (.seq (.reg [mo (.mv (.c (.int .i64 1))) 6])
 (.block 0
 (.loop mc_slices_MinFunc_api_Exposure_api_Exposure_of_exposure_First_1_L1)))
 (.seq (.reg [mo (.ld (some 2) (.t 5)) 32,
 ⟨.st 2 (.t 4) (.t 32), none, none⟩])
 .ret)))))
theorem ok_slices_MinFunc_api_Exposure_api_Exposure_of_exposure_First_1 : mc_slices_MinFunc_api_Exposure_api_Exposure_of_exposure_First_1.ok Tryz.prog Tryz.f36.ntmps (Tryz.f36.body.getD .skip) = true := by kernel_rfl
theorem Wq_slices_MinFunc_api_Exposure_api_Exposure_of_exposure_First_1 (x_ : List GExposure) {Q : GExposure → Prop} {Q' : V → Heap → Prop} (h : Ok (F_slices_MinFunc_api_Exposure_api_Exposure_of_exposure_First_1 x_) Q) (hQ : ∀ z, Q z → Q' (GExposure.v z) []) : ACall Tryz.prog 36 [.sl (x_.map GExposure.v), .fn (.func 37) []] [] Q' := by
 refine acall_machN [] [] [.c 4 (some 2)] Tryz.func36 rfl (by kernel_rfl) ok_slices_MinFunc_api_Exposure_api_Exposure_of_exposure_First_1 (by kernel_rfl) rfl rfl fun M hf => ?_
 clear hf
 unfold F_slices_MinFunc_api_Exposure_api_Exposure_of_exposure_First_1 at h
 unfold mc_slices_MinFunc_api_Exposure_api_Exposure_of_exposure_First_1
 (try replace h := tH h)
 refine tB ?_
 repeat' (first
 |(exact hQ _ h)
 |(exact trivial)
 |(exact False.elim h)
 |(have hq := hQ _ h; replace hq := tH hq; exact hq)
 |((first | refine oblg h ?_ | refine roomG h ?_ | refine fork h ?_ ?_ | refine forkS h ?_ ?_) <;> clear h <;> intro hc h)
 |(refine And.intro (chkD_of rfl) ?_)
 |(obtain ⟨y, hy, h⟩ := h; have hw := W_exposure_First_1 hy; (try replace hw := tH hw); (first | (refine sCall_of hw rfl rfl ?_; rw [M.lok_eq]) | (refine sCallD_of hw rfl rfl ?_; rw [M.lokD_eq])); clear hw; clear hy; refine tB ?_)
 |(refine M.jn1 (b := mc_slices_MinFunc_api_Exposure_api_Exposure_of_exposure_First_1_J1) [0, 1, 4, 5, 6] [4] (fun y => []) (fun y => [.o 5 (.cells [.int .i64 y.Principal, .int .i64 y.Time])]) [] h ?_ ?_ <;> first
  |(clear h; intro Qn K hK1 h; (try replace h := tH h); refine tB ?_)
  |(clear h; intro y h; unfold mc_slices_MinFunc_api_Exposure_api_Exposure_of_exposure_First_1_J1; (try replace h := tH h); refine tB ?_)
      | fail)
 |(refine M.wh1 (b := mc_slices_MinFunc_api_Exposure_api_Exposure_of_exposure_First_1_L1) [0, 1, 4, 5] [4] (fun x => [(6, .int .i64 x.1)]) (fun x => [.o 5 (.cells [.int .i64 x.2.Principal, .int .i64 x.2.Time])]) [] h ?_ ?_ <;> first
  |(clear h; intro x Qn K hK2 h; unfold F_slices_MinFunc_api_Exposure_api_Exposure_of_exposure_First_1_L1 at h; unfold mc_slices_MinFunc_api_Exposure_api_Exposure_of_exposure_First_1_L1; (try replace h := tH h); refine tB ?_)
  |(clear h; (try refine tB ?_); exact tU0; done)
      | fail)
 |((first | refine hK1 _ ?_ | refine hK2 _ ?_); (try refine tB ?_); refine ⟨_, h, ?_⟩; exact tU0; done)
 |(refine ⟨_, getE_map (inb_toNat (by assumption)), ?_⟩; (first | rw [M.lok_compU] | rw [M.lokD_compU]); refine tB ?_)
 |(refine And.intro (ltb_of (by assumption)) ?_)
 |(refine And.intro (inb_nat (by assumption)) ?_)
 |(refine And.intro (by omega) ?_)
   | fail)
theorem W_slices_MinFunc_api_Exposure_api_Exposure_of_exposure_First_1 : ∀ {x_ : List GExposure} {y : GExposure}, F_slices_MinFunc_api_Exposure_api_Exposure_of_exposure_First_1 x_ = some y → ACall Tryz.prog 36 [.sl (x_.map GExposure.v), .fn (.func 37) []] [] (fun r H => r = GExposure.v y ∧ H = []) :=
 fun hy => Wq_slices_MinFunc_api_Exposure_api_Exposure_of_exposure_First_1 _ (Q := (· = _)) ⟨_, hy, rfl⟩ fun | _, rfl => ⟨rfl, rfl⟩
noncomputable def F_exposure_First (d_ : GDirectory) (a_ : GEstate) (content_ : Int) : Option (Int × Bool) :=
 (F_exposure_All d_ a_ content_).bind fun y2 => bif decide ((y2.1.length : Int) = 0) then some (0, false) else (F_slices_MinFunc_api_Exposure_api_Exposure_of_exposure_First_1 y2.1).bind fun y4 => some (y4.Time, true)
def mc_exposure_First : MC :=
 (.seq (.reg [mo (.box (.t 0)) 3,
 mo (.box (.t 1)) 4,
 mo (.mv (.c (.int .i64 0))) 6,
 mo (.mv (.c (.bool false))) 7])
 (.seq (.reg [mo (.ld (some 2) (.t 3)) 12,
 mo (.ld (some 2) (.t 4)) 13,
 mo (.mv (.t 2)) 14,
 mo (.call (.f 13) [(.t 12), (.t 13), (.t 14)] [] []) 15,
 mo (.mv (.t 15)) 11,
 mo (.ext 0 (.t 11)) 16,
 mo (.ext 1 (.t 11)) 17,
 mo (.mv (.t 16)) 8,
 mo (.mv (.t 17)) 9])
 (.seq (.seq (.note (.gc [8]) (.reg [mo (.mv (.t 8)) 18,
 mo (.len false (.t 18)) 19,
 mo (.bin false .eql (.t 19) (.c (.int .i64 0))) 20]))
 (.cond (.t 20)
 (.seq (.reg [mo (.mv (.c (.int .i64 0))) 6,
 mo (.mv (.c (.bool false))) 7])
 .ret)
 .skip))
 (.seq (.reg [mo (.mv (.t 8)) 21,
 mo (.call (.f 36) [(.t 21), (.f 37)] [] []) 22,
 mo (.alloc [(.int .i64 0), (.int .i64 0)]) 10,
 ⟨.st 2 (.t 10) (.t 22), none, none⟩])
 (.seq (.reg [mo (.fad 1 (.t 10)) 23,
 mo (.ld none (.t 23)) 24,
 mo (.mv (.t 24)) 6,
 mo (.mv (.c (.bool true))) 7])
 .ret)))))
theorem ok_exposure_First : mc_exposure_First.ok Tryz.prog Tryz.f18.ntmps (Tryz.f18.body.getD .skip) = true := by kernel_rfl
theorem Wq_exposure_First (d_ : GDirectory) (a_ : GEstate) (content_ : Int) {Q : Int × Bool → Prop} {Q' : V → Heap → Prop} (h : Ok (F_exposure_First d_ a_ content_) Q) (hQ : ∀ z, Q z → Q' (.tup [.int .i64 z.1, .bool z.2]) []) : ACall Tryz.prog 18 [GDirectory.v d_, GEstate.v a_, .int .i64 content_] [] Q' := by
 refine acall_machN [] [] [.t 6, .t 7] Tryz.func18 rfl (by kernel_rfl) ok_exposure_First (by kernel_rfl) rfl rfl fun M hf => ?_
 clear hf
 unfold F_exposure_First at h
 unfold mc_exposure_First
 (try replace h := tH h)
 refine tB ?_
 repeat' (first
 |(exact hQ _ h)
 |(exact trivial)
 |(exact False.elim h)
 |(have hq := hQ _ h; replace hq := tH hq; exact hq)
 |((first | refine oblg h ?_ | refine roomG h ?_ | refine fork h ?_ ?_ | refine forkS h ?_ ?_) <;> clear h <;> intro hc h)
 |(refine And.intro (chkD_of rfl) ?_)
 |(obtain ⟨y, hy, h⟩ := h; (first | with_reducible first | have hw := W_exposure_All hy | have hw := W_slices_MinFunc_api_Exposure_api_Exposure_of_exposure_First_1 hy); (try replace hw := tH hw); (first | (refine sCall_of hw rfl rfl ?_; rw [M.lok_eq]) | (refine sCallD_of hw rfl rfl ?_; rw [M.lokD_eq])); clear hw; clear hy; refine tB ?_)
 |(refine ⟨_, getE_map (inb_toNat (by assumption)), ?_⟩; (first | rw [M.lok_compU] | rw [M.lokD_compU]); refine tB ?_)
 |(refine And.intro (ltb_of (by assumption)) ?_)
 |(refine And.intro (inb_nat (by assumption)) ?_)
 |(refine And.intro (by omega) ?_)
   | fail)
theorem W_exposure_First : ∀ {d_ : GDirectory} {a_ : GEstate} {content_ : Int} {y : Int × Bool}, F_exposure_First d_ a_ content_ = some y → ACall Tryz.prog 18 [GDirectory.v d_, GEstate.v a_, .int .i64 content_] [] (fun r H => r = .tup [.int .i64 y.1, .bool y.2] ∧ H = []) :=
 fun hy => Wq_exposure_First _ _ _ (Q := (· = _)) ⟨_, hy, rfl⟩ fun | _, rfl => ⟨rfl, rfl⟩
noncomputable def F_law30_ExposurePublic_L1 (y14 : Int × Bool) (k47 : Int) (a48 : GExposure) (x46 : Bool) : Option (Fl Bool Bool) :=
 bif decide (a48.Time < y14.1) then some (.ex false) else grp ((x46 || decide (a48.Time = y14.1))) fun b52 => some (.nx b52)
noncomputable def F_law30_ExposurePublic_L2 (y12 : (List GExposure) × Int) (k83 : Int) (a84 : GExposure) (x82 : Int) : Option (Fl Int Bool) :=
 chk (inb 0 y12.1.length) (bif decide ((y12.1.getD 0 default).Time < a84.Time) then some (.ex false) else chk (in64 (x82 + 1)) (some (.nx (x82 + 1))))
noncomputable def F_law30_ExposurePublic_L3 (y6 : GDirectory × GTape) (k134 : Int) (a135 : Int) (x133 : Int) : Option Int :=
 (F_ref23_Reader y6.1 k134).bind fun y143 => bif y143 then chk (in64 (x133 - 1)) (some (x133 - 1)) else some x133
noncomputable def F_law30_ExposurePublic (l_ : List Int) : Option Bool :=
 bif decide (400 < (l_.length : Int)) then F_law30_awake.bind fun y4 => some y4 else (F_made_Directory (GTape.mk l_ 0)).bind fun y6 => (F_made_Estate y6.2 y6.1).bind fun y8 => (F_made_Tape_Next y8.2 3).bind fun y10 => (F_exposure_All y6.1 y8.1 y10.1).bind fun y12 => bif (!decide (y12.2 = 0)) then some false else (F_exposure_First y6.1 y8.1 y10.1).bind fun y14 => bif (!(y14.2 == decide (0 < (y12.1.length : Int)))) then some false else (forL (F_law30_ExposurePublic_L1 y14) y12.1 0 false).bind fun o => o.elim (fun x53 => grp ((y14.2 && (!x53))) fun b58 => bif b58 then some false else bif decide ((y12.1.length : Int) = 0) then F_law30_awake.bind fun y64 => some y64 else chk (inb 0 y12.1.length) (bif (!decide ((y12.1.getD 0 default).Principal = (-1))) then F_law30_awake.bind fun y66 => some y66 else chk (inc 1 (y12.1.length : Int) y12.1.length) ((forL (F_law30_ExposurePublic_L2 y12) (y12.1.drop 1) 0 0).bind fun o => o.elim (fun x85 => (foldL (F_law30_ExposurePublic_L3 y6) y6.1.Kinds 0 x85).bind fun x144 => jn (α := Bool) (bif decide (x144 = 0) then F_law30_awake.bind fun y149 => some y149 else some false) fun j150 => some j150) (fun r86 => some r86)))) (fun r54 => some r54)
@[irreducible] def mg_law30_ExposurePublic_1 : List MOp := [⟨.fad 1 (.t 13), (some 65), (some (64, false))⟩,
 ⟨.ld none (.t 65), (some 66), (some (64, false))⟩,
 ⟨.mv (.t 9), (some 67), (some (64, false))⟩,
 ⟨.bin false .eql (.t 66) (.t 67), (some 68), (some (64, false))⟩,
 mo (.pick (.t 64) (.c (.bool true)) (.t 68)) 69]
@[irreducible] def mc_law30_ExposurePublic_L1 : MC :=
 (.seq (.reg [mo (.bin false .lss (.t 55) (.t 54)) 56])
 (.seq (.cond (.t 56)
 .skip
 (.exit 0))
 (.seq (.block 1
 (.seq (.reg [mo (.iad 2 (.t 53) (.t 55)) 57,
 mo (.ld (some 2) (.t 57)) 58,
 mo (.alloc [(.int .i64 0), (.int .i64 0)]) 13,
 ⟨.st 2 (.t 13) (.t 58), none, none⟩])
 (.seq (.seq (.reg [mo (.fad 1 (.t 13)) 59,
 mo (.ld none (.t 59)) 60,
 mo (.mv (.t 9)) 61,
 mo (.bin false .lss (.t 60) (.t 61)) 62])
 (.cond (.t 62)
 (.seq (.reg [mo (.mv (.c (.bool false))) 2])
 .ret)
 .skip))
 (.regI [.op (mo (.mv (.t 11)) 63),
 .op (mo (.mv (.t 63)) 64),
 .grp mg_law30_ExposurePublic_1,
 .op (mo (.mv (.t 69)) 11)]))))
 (.reg [mo (.bin true .add (.t 55) (.c (.int .i64 1))) 70,
 mo (.mv (.t 70)) 55]))))
@[irreducible] def mg_law30_ExposurePublic_2 : List MOp := [⟨.mv (.t 11), (some 73), (some (72, true))⟩,
 ⟨.not (.t 73), (some 74), (some (72, true))⟩,
 mo (.pick (.t 72) (.t 74) (.c (.bool false))) 75]
@[irreducible] def mc_law30_ExposurePublic_L2 : MC :=
 (.seq (.reg [mo (.bin false .lss (.t 90) (.t 89)) 91])
 (.seq (.cond (.t 91)
 .skip
 (.exit 2))
 (.seq (.block 3
 (.seq (.reg [mo (.iad 2 (.t 88) (.t 90)) 92,
 mo (.ld (some 2) (.t 92)) 93,
 mo (.alloc [(.int .i64 0), (.int .i64 0)]) 16,
 ⟨.st 2 (.t 16) (.t 93), none, none⟩])
 (.seq (.seq (.regD [mo (.fad 1 (.t 16)) 94,
 mo (.ld none (.t 94)) 95,
 mo (.mv (.t 7)) 96,
 mo (.iad 2 (.t 96) (.c (.int .i64 0))) 97,
 mo (.fad 1 (.t 97)) 98,
 mo (.ld none (.t 98)) 99,
 mo (.bin false .gtr (.t 95) (.t 99)) 100]
 [[], [0], [], [2], [3], [4], [1, 5]]
 [[], [0], [], [2], [2, 3], [2, 3, 4], [0, 1, 2, 3, 4, 5]])
 (.cond (.t 100)
 (.seq (.reg [mo (.mv (.c (.bool false))) 2])
 .ret)
 .skip))
 (.note (.gc [4, 7, 14, 88, 89, 90, 119]) (.reg [mo (.mv (.t 14)) 101,
 mo (.bin true .add (.t 101) (.c (.int .i64 1))) 102,
 mo (.mv (.t 102)) 14])))))
 (.reg [mo (.bin true .add (.t 90) (.c (.int .i64 1))) 103,
 mo (.mv (.t 103)) 90]))))
@[irreducible] def mc_law30_ExposurePublic_L3 : MC :=
 (.seq (.reg [mo (.bin false .lss (.t 107) (.t 106)) 108])
 (.seq (.cond (.t 108)
 .skip
 (.exit 4))
 (.seq (.block 5
 (.seq (.reg [mo (.mv (.t 107)) 109,
 mo (.mv (.t 109)) 17])
 (.seq (.reg [mo (.ld (some 2) (.t 4)) 110,
 mo (.mv (.t 17)) 111,
 mo (.call (.f 19) [(.t 110), (.t 111)] [] []) 112])
 (.cond (.t 112)
 (.reg [mo (.mv (.t 14)) 113,
 mo (.bin true .sub (.t 113) (.c (.int .i64 1))) 114,
 mo (.mv (.t 114)) 14])
 .skip))))
 (.reg [mo (.bin true .add (.t 107) (.c (.int .i64 1))) 115,
 mo (.mv (.t 115)) 107]))))
@[irreducible] def mg_law30_ExposurePublic_3 : List MOp := [⟨.call (.f 8) [] [] [], (some 119), (some (118, true))⟩,
 mo (.pick (.t 118) (.t 119) (.c (.bool false))) 120]
def mc_law30_ExposurePublic : MC :=
 (.seq (.reg [mo (.mv (.c (.bool false))) 2])
 (.seq (.seq (.reg [mo (.mv (.t 0)) 18,
 mo (.len false (.t 18)) 19,
 mo (.bin false .gtr (.t 19) (.c (.int .i64 400))) 20])
 (.cond (.t 20)
 (.seq (.reg [mo (.call (.f 8) [] [] []) 21,
 mo (.mv (.t 21)) 2])
 .ret)
 .skip))
 (.seq (.reg [mo (.mv (.t 0)) 22,
 mo (.build [(.sl []), (.int .i64 0)] [(0, 1, (.t 22))]) 23,
 mo (.box (.t 23)) 24,
 mo (.mv (.t 24)) 3])
 (.seq (.note (.gc [3, 65, 66, 67, 68, 73, 74, 80, 81, 82, 83, 84, 119]) (.reg [mo (.mv (.t 3)) 25,
 mo (.call (.f 9) [(.t 25)] [24] []) 26,
 mo (.alloc [(.sl []), (.sl [])]) 4,
 ⟨.st 2 (.t 4) (.t 26), none, none⟩]))
 (.seq (.reg [mo (.mv (.t 3)) 27,
 mo (.ld (some 2) (.t 4)) 28,
 mo (.call (.f 10) [(.t 27), (.t 28)] [24] []) 29,
 mo (.alloc [(.int .i64 0), (.sl [])]) 5,
 ⟨.st 2 (.t 5) (.t 29), none, none⟩])
 (.seq (.reg [mo (.mv (.t 3)) 30,
 mo (.call (.f 11) [(.t 30), (.c (.int .i64 3))] [24] []) 31,
 mo (.mv (.t 31)) 6])
 (.seq (.note (.gc [4, 5, 6, 65, 66, 67, 68, 73, 74, 80, 81, 82, 83, 84, 119]) (.reg [mo (.ld (some 2) (.t 4)) 33,
 mo (.ld (some 2) (.t 5)) 34,
 mo (.mv (.t 6)) 35,
 mo (.call (.f 13) [(.t 33), (.t 34), (.t 35)] [] []) 36,
 mo (.mv (.t 36)) 32,
 mo (.ext 0 (.t 32)) 37,
 mo (.ext 1 (.t 32)) 38,
 mo (.mv (.t 37)) 7,
 mo (.mv (.t 38)) 8]))
 (.seq (.seq (.reg [mo (.mv (.t 8)) 39,
 mo (.bin false .neq (.t 39) (.c (.int .i64 0))) 40])
 (.cond (.t 40)
 (.seq (.reg [mo (.mv (.c (.bool false))) 2])
 .ret)
 .skip))
 (.seq (.note (.gc [4, 5, 6, 7, 65, 66, 67, 68, 73, 74, 80, 81, 82, 83, 84, 119]) (.reg [mo (.ld (some 2) (.t 4)) 42,
 mo (.ld (some 2) (.t 5)) 43,
 mo (.mv (.t 6)) 44,
 mo (.call (.f 18) [(.t 42), (.t 43), (.t 44)] [] []) 45,
 mo (.mv (.t 45)) 41,
 mo (.ext 0 (.t 41)) 46,
 mo (.ext 1 (.t 41)) 47,
 mo (.mv (.t 46)) 9,
 mo (.mv (.t 47)) 10]))
 (.seq (.seq (.note (.gc [4, 7, 9, 10, 65, 66, 67, 68, 73, 74, 80, 81, 82, 83, 84, 119]) (.reg [mo (.mv (.t 10)) 48,
 mo (.mv (.t 7)) 49,
 mo (.len false (.t 49)) 50,
 mo (.bin false .gtr (.t 50) (.c (.int .i64 0))) 51,
 mo (.beq true (.t 48) (.t 51)) 52]))
 (.cond (.t 52)
 (.seq (.reg [mo (.mv (.c (.bool false))) 2])
 .ret)
 .skip))
 (.seq (.reg [mo (.mv (.c (.bool false))) 11])
 (.seq (.seq (.reg [mo (.mv (.t 7)) 53,
 mo (.len false (.t 53)) 54,
 mo (.mv (.c (.int .i64 0))) 55])
 (.block 0
 (.loop mc_law30_ExposurePublic_L1)))
 (.seq (.seq (.regI [.op (mo (.mv (.t 10)) 71),
 .op (mo (.mv (.t 71)) 72),
 .grp mg_law30_ExposurePublic_2])
 (.cond (.t 75)
 (.seq (.reg [mo (.mv (.c (.bool false))) 2])
 .ret)
 .skip))
 (.seq (.seq (.note (.gc [4, 7, 80, 81, 82, 83, 84, 119]) (.reg [mo (.mv (.t 7)) 76,
 mo (.len false (.t 76)) 77,
 mo (.bin false .eql (.t 77) (.c (.int .i64 0))) 78,
 mo (.mv (.t 78)) 79,
 ⟨.mv (.t 7), (some 80), (some (79, false))⟩,
 ⟨.iad 2 (.t 80) (.c (.int .i64 0)), (some 81), (some (79, false))⟩,
 ⟨.fad 0 (.t 81), (some 82), (some (79, false))⟩,
 ⟨.ld none (.t 82), (some 83), (some (79, false))⟩,
 ⟨.bin false .neq (.t 83) (.c (.int .i64 (-1))), (some 84), (some (79, false))⟩,
 mo (.pick (.t 79) (.c (.bool true)) (.t 84)) 85]))
 (.cond (.t 85)
 (.seq (.reg [mo (.call (.f 8) [] [] []) 86,
 mo (.mv (.t 86)) 2])
 .ret)
 .skip))
 (.seq (.reg [mo (.mv (.c (.int .i64 0))) 14])
 (.seq (.seq (.note (.gc [4, 7, 14, 119]) (.reg [mo (.mv (.t 7)) 87,
 mo (.slc 2 (.t 87) (some (.c (.int .i64 1))) none) 88,
 mo (.len false (.t 88)) 89,
 mo (.mv (.c (.int .i64 0))) 90]))
 (.block 2
 (.loop mc_law30_ExposurePublic_L2)))
 (.seq (.seq (.reg [mo (.fad 0 (.t 4)) 104,
 mo (.ld none (.t 104)) 105,
 mo (.len false (.t 105)) 106,
 mo (.mv (.c (.int .i64 0))) 107])
 (.block 4
 (.loop mc_law30_ExposurePublic_L3)))
 (.seq (.regI [.op (mo (.mv (.t 14)) 116),
 .op (mo (.bin false .eql (.t 116) (.c (.int .i64 0))) 117),
 .op (mo (.mv (.t 117)) 118),
 .grp mg_law30_ExposurePublic_3,
 .op (mo (.mv (.t 120)) 2)])
 .ret))))))))))))))))))
theorem ok_law30_ExposurePublic : mc_law30_ExposurePublic.ok Tryz.prog Tryz.f6.ntmps (Tryz.f6.body.getD .skip) = true := by kernel_rfl
theorem Wq_law30_ExposurePublic (l_ : List Int) {Q : Bool → Prop} {Q' : V → Heap → Prop} (h : Ok (F_law30_ExposurePublic l_) Q) (hQ : ∀ z, Q z → Q' (.bool z) []) : ACall Tryz.prog 6 [.sl (l_.map (V.int .i64))] [] Q' := by
 refine acall_machN [] [] [.t 2] Tryz.func6 rfl (by kernel_rfl) ok_law30_ExposurePublic (by kernel_rfl) rfl rfl fun M hf => ?_
 clear hf
 unfold F_law30_ExposurePublic at h
 unfold mc_law30_ExposurePublic
 (try replace h := tH h)
 refine tB ?_
 repeat' (first
 |(exact hQ _ h)
 |(exact trivial)
 |(exact False.elim h)
 |(have hq := hQ _ h; replace hq := tH hq; exact hq)
 |((first | refine oblg h ?_ | refine roomG h ?_ | refine fork h ?_ ?_ | refine forkS h ?_ ?_) <;> clear h <;> intro hc h)
 |(refine And.intro (chkD_of rfl) ?_)
 |(obtain ⟨y, hy, h⟩ := h; (first | (with_reducible first | have hw := W_law30_awake hy | have hw := W_exposure_All hy | have hw := W_exposure_First hy | have hw := W_ref23_Reader hy) | have hw := acall_swe 1000 24 (W_made_Directory hy) | have hw := acall_swe 1000 24 (W_made_Estate hy) | have hw := acall_swe 1000 24 (W_made_Tape_Next hy)); (try replace hw := tH hw); (first | (refine sCall_of hw rfl rfl ?_; rw [M.lok_eq]) | (refine sCallD_of hw rfl rfl ?_; rw [M.lokD_eq])); clear hw; clear hy; refine tB ?_)
 |(refine M.gv1 (ms := mg_law30_ExposurePublic_1) 69 [65, 66, 67, 68] h ?_ ?_ <;> first
  |(clear h; intro K hK1; unfold mg_law30_ExposurePublic_1; refine tB ?_)
  |(clear h; intro b h; (try replace h := tH h); refine tB ?_)
      | fail)
 |(refine M.for1 (b := mc_law30_ExposurePublic_L1) 55 [4, 7, 9, 10, 53, 54] [4] (fun x => [(11, .bool x)]) (fun x => []) [] h ?_ ?_ ?_ <;> first
  |(clear h; intro k a x Qn K hK2 hkN2 ha2 h hf; have hl := fact_int (factsE_find (n := 54) hf.1 rfl); clear hf; have hkd := kD hkN2; have hkB2 := kB hkN2; have hkI2 := kI (k := k) (by omega); unfold F_law30_ExposurePublic_L1 at h; unfold mc_law30_ExposurePublic_L1; (try replace h := tH h); refine tK ha2 hkd hkN2 hkB2 hkI2 ?_)
  |(clear h; intro x K h; replace h := And.left (And.intro h trivial); unfold mc_law30_ExposurePublic_L1; (try replace h := tH h); refine tB ?_)
  |(clear h; (try refine tB ?_); exact tU0; done)
      | fail)
 |(refine M.for1 (b := mc_law30_ExposurePublic_L2) 90 [4, 7, 88, 89] [4] (fun x => [(14, .int .i64 x)]) (fun x => []) [] h ?_ ?_ ?_ <;> first
  |(clear h; intro k a x Qn K hK3 hkN3 ha3 h hf; have hl := fact_int (factsE_find (n := 89) hf.1 rfl); clear hf; have hkd := kD hkN3; have hkB3 := kB hkN3; have hkI3 := kI (k := k) (by omega); unfold F_law30_ExposurePublic_L2 at h; unfold mc_law30_ExposurePublic_L2; (try replace h := tH h); refine tK ha3 hkd hkN3 hkB3 hkI3 ?_)
  |(clear h; intro x K h; replace h := And.left (And.intro h trivial); unfold mc_law30_ExposurePublic_L2; (try replace h := tH h); refine tB ?_)
  |(clear h; (try refine tB ?_); exact tU0; done)
      | fail)
 |(refine M.fold1 (b := mc_law30_ExposurePublic_L3) 107 [4, 106] [4] (fun x => [(14, .int .i64 x)]) (fun x => []) [] h ?_ ?_ ?_ <;> first
  |(clear h; intro k a x Qn K hK4 hkN4 ha4 h hf; have hl := fact_int (factsE_find (n := 106) hf.1 rfl); clear hf; have hkd := kD hkN4; have hkB4 := kB hkN4; have hkI4 := kI (k := k) (by omega); unfold F_law30_ExposurePublic_L3 at h; unfold mc_law30_ExposurePublic_L3; (try replace h := tH h); refine tK ha4 hkd hkN4 hkB4 hkI4 ?_)
  |(clear h; intro x K h; replace h := And.left (And.intro h trivial); unfold mc_law30_ExposurePublic_L3; (try replace h := tH h); refine tB ?_)
  |(clear h; (try refine tB ?_); exact tU0; done)
      | fail)
 |(refine M.gj1 (ms := mg_law30_ExposurePublic_3) [] [] (fun y => [(120, .bool y)]) (fun y => []) h ?_ ?_ <;> first
  |(clear h; intro Qn K hK5 h; unfold mg_law30_ExposurePublic_3; (try replace h := tH h); refine tB ?_)
  |(clear h; intro y h; (try replace h := tH h); refine tB ?_)
      | fail)
 |(refine M.gv1 (ms := mg_law30_ExposurePublic_2) 75 [73, 74] h ?_ ?_ <;> first
  |(clear h; intro K hK6; unfold mg_law30_ExposurePublic_2; refine tB ?_)
  |(clear h; intro b h; (try replace h := tH h); refine tB ?_)
      | fail)
 |(refine And.intro (by first | exact hkI2 | exact hkN2 | exact hkB2 | exact hkI3 | exact hkN3 | exact hkB3 | exact hkI4 | exact hkN4 | exact hkB4) ?_)
 |(first | simp only [ha2] | simp only [ha3] | simp only [ha4])
 |((first | refine hK1 _ ?_ | refine hK6 _ ?_); exact tU; done)
 |((first | refine hK2 _ ?_ | refine hK3 _ ?_ | refine hK4 _ ?_ | refine hK5 _ ?_); (try refine tB ?_); refine ⟨_, h, ?_⟩; exact tU0; done)
 |(refine bfork (fun hc => ?_) (fun hc => ?_))
 |(refine ⟨_, getE_map (inb_toNat (by assumption)), ?_⟩; (first | rw [M.lok_compU] | rw [M.lokD_compU]); refine tB ?_)
 |(refine And.intro (ltb_of (by assumption)) ?_)
 |(refine And.intro (inb_nat (by assumption)) ?_)
 |(refine And.intro (by omega) ?_)
   | fail)
theorem W_law30_ExposurePublic : ∀ {l_ : List Int} {y : Bool}, F_law30_ExposurePublic l_ = some y → ACall Tryz.prog 6 [.sl (l_.map (V.int .i64))] [] (fun r H => r = .bool y ∧ H = []) :=
 fun hy => Wq_law30_ExposurePublic _ (Q := (· = _)) ⟨_, hy, rfl⟩ fun | _, rfl => ⟨rfl, rfl⟩
end Go.Ab
