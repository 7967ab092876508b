/- What the functions of this seat that lie on the laws' road compute (part LCut), each for every input. By AI agents. -/
import Derived.Test.YtgjicmoegmbipaaGreatProg
import Derived.KernelRfl
import Derived.Test.YtgjicmoegmbipaaGreatAbFun
import Derived.Test.YtgjicmoegmbipaaGreatLC
set_option linter.all false
set_option linter.all false
set_option maxRecDepth 20000
namespace Go.Ab
open Go.Proofs
noncomputable def F_law30_ExposureCut_L1 (y11 : Int × GTape) (k28 : Int) (a29 : GMember) (x27 : (List Int) × (List GMember)) : Option ((List Int) × (List GMember)) :=
  bif decide (a29.Time ≤ y11.1) then chk (room (x27.2.length + [a29].length) 32) (some (x27.1, (x27.2 ++ [a29]))) else some (x27.1, x27.2)
noncomputable def F_law30_ExposureCut_L2 (y11 : Int × GTape) (y12 : Int × GTape) (k78 : Int) (a79 : GAccess) (x77 : Bool × Int × (List GAccess)) : Option (Bool × Int × (List GAccess)) :=
  jn (α := List GAccess) (bif decide (a79.Time ≤ y11.1) then chk (room (x77.2.2.length + [a79].length) 56) (some (x77.2.2 ++ [a79])) else some x77.2.2) fun j86 => grp ((x77.1 || (decide (a79.Kind = 5) && decide (a79.Content = y12.1)))) fun b87 => some (b87, x77.2.1, j86)
noncomputable def F_law30_ExposureCut_L3 (y11 : Int × GTape) (k116 : Int) (a117 : GExposure) (x115 : List GExposure) : Option (List GExposure) :=
  bif decide (a117.Time ≤ y11.1) then chk (room (x115.length + [a117].length) 16) (some (x115 ++ [a117])) else some x115
noncomputable def F_law30_ExposureCut (l_ : List Int) : Option Bool :=
  bif decide (400 < (l_.length : Int)) then F_law30_awake.bind fun y4 => some y4 else (F_made_Directory (GTape.mk l_ 0)).bind fun y6 => (F_made_Estate y6.2 y6.1).bind fun y8 => (F_made_Tape_Next y8.2 32).bind fun y11 => (F_made_Tape_Next y11.2 4).bind fun y12 => (foldL (F_law30_ExposureCut_L1 y11) y6.1.Events 0 (y6.1.Kinds, [])).bind fun x30 => (foldL (F_law30_ExposureCut_L2 y11 y12) y8.1.Events 0 (false, y8.1.Places, [])).bind fun x88 => (F_exposure_All y6.1 y8.1 y12.1).bind fun y90 => (F_exposure_All (GDirectory.mk x30.1 x30.2) (GEstate.mk x88.2.1 x88.2.2) y12.1).bind fun y92 => grp (((!decide (y90.2 = 0)) || (!decide (y92.2 = 0)))) fun b99 => grp ((b99 || ((!x88.1) && decide (0 < (y90.1.length : Int))))) fun b100 => bif b100 then some false else (foldL (F_law30_ExposureCut_L3 y11) y90.1 0 []).bind fun x118 => (F_ref30_Same x118 y92.1).bind fun y123 => jn (α := Bool) (bif y123 then F_law30_awake.bind fun y125 => some y125 else some false) fun j126 => some j126
@[irreducible] def mc_law30_ExposureCut_L1 : MC :=
 (.seq (.reg [⟨.bin false .lss (.t 44) (.t 43), (some 45), none⟩])
 (.seq (.cond (.t 45)
 .skip
 (.exit 0))
 (.seq (.block 1
 (.seq (.reg [⟨.iad 4 (.t 42) (.t 44), (some 46), none⟩,
 ⟨.ld (some 4) (.t 46), (some 47), none⟩,
 ⟨.alloc [(.int .i64 0), (.int .i64 0), (.int .i64 0), (.int .i64 0)], (some 10), none⟩,
 ⟨.st 4 (.t 10) (.t 47), none, none⟩])
 (.seq (.reg [⟨.fad 0 (.t 10), (some 48), none⟩,
 ⟨.ld none (.t 48), (some 49), none⟩,
 ⟨.mv (.t 6), (some 50), none⟩,
 ⟨.bin false .leq (.t 49) (.t 50), (some 51), none⟩])
 (.cond (.t 51)
 (.reg [⟨.fad 1 (.t 8), (some 52), none⟩,
 ⟨.ld none (.t 52), (some 53), none⟩,
 ⟨.ld (some 4) (.t 10), (some 54), none⟩,
 ⟨.bslice 4 [(.t 54)], (some 55), none⟩,
 ⟨.app 4 32 (.t 53) (.t 55), (some 56), none⟩,
 ⟨.fad 1 (.t 8), (some 57), none⟩,
 ⟨.st 1 (.t 57) (.t 56), none, none⟩])
 .skip))))
 (.reg [⟨.bin true .add (.t 44) (.c (.int .i64 1)), (some 58), none⟩,
 ⟨.mv (.t 58), (some 44), none⟩]))))
@[irreducible] def mg_law30_ExposureCut_1 : List MOp := [⟨.fad 1 (.t 14), (some 81), (some (80, false))⟩,
 ⟨.ld none (.t 81), (some 82), (some (80, false))⟩,
 ⟨.bin false .eql (.t 82) (.c (.int .i64 5)), (some 83), (some (80, false))⟩,
 ⟨.mv (.t 83), (some 84), (some (80, false))⟩,
 ⟨.fad 5 (.t 14), (some 85), (some (84, true))⟩,
 ⟨.ld none (.t 85), (some 86), (some (84, true))⟩,
 ⟨.mv (.t 7), (some 87), (some (84, true))⟩,
 ⟨.bin false .eql (.t 86) (.t 87), (some 88), (some (84, true))⟩,
 ⟨.pick (.t 84) (.t 88) (.c (.bool false)), (some 89), (some (80, false))⟩,
 ⟨.pick (.t 80) (.c (.bool true)) (.t 89), (some 90), none⟩]
@[irreducible] def mc_law30_ExposureCut_J1 : MC :=
 (.regI [.op ⟨.mv (.t 12), (some 79), none⟩,
 .op ⟨.mv (.t 79), (some 80), none⟩,
 .grp mg_law30_ExposureCut_1,
 .op ⟨.mv (.t 90), (some 12), none⟩])
@[irreducible] def mc_law30_ExposureCut_L2 : MC :=
 (.seq (.reg [⟨.bin false .lss (.t 65) (.t 64), (some 66), none⟩])
 (.seq (.cond (.t 66)
 .skip
 (.exit 2))
 (.seq (.block 3
 (.seq (.reg [⟨.iad 7 (.t 63) (.t 65), (some 67), none⟩,
 ⟨.ld (some 7) (.t 67), (some 68), none⟩,
 ⟨.alloc [(.int .i64 0), (.int .i64 0), (.int .i64 0), (.int .i64 0), (.int .i64 0), (.int .i64 0), (.int .i64 0)], (some 14), none⟩,
 ⟨.st 7 (.t 14) (.t 68), none, none⟩])
 (.cut (.seq (.reg [⟨.fad 0 (.t 14), (some 69), none⟩,
 ⟨.ld none (.t 69), (some 70), none⟩,
 ⟨.mv (.t 6), (some 71), none⟩,
 ⟨.bin false .leq (.t 70) (.t 71), (some 72), none⟩])
 (.cond (.t 72)
 (.reg [⟨.fad 1 (.t 11), (some 73), none⟩,
 ⟨.ld none (.t 73), (some 74), none⟩,
 ⟨.ld (some 7) (.t 14), (some 75), none⟩,
 ⟨.bslice 7 [(.t 75)], (some 76), none⟩,
 ⟨.app 7 56 (.t 74) (.t 76), (some 77), none⟩,
 ⟨.fad 1 (.t 11), (some 78), none⟩,
 ⟨.st 1 (.t 78) (.t 77), none, none⟩])
 .skip))
  mc_law30_ExposureCut_J1)))
 (.reg [⟨.bin true .add (.t 65) (.c (.int .i64 1)), (some 91), none⟩,
 ⟨.mv (.t 91), (some 65), none⟩]))))
@[irreducible] def mg_law30_ExposureCut_2 : List MOp := [⟨.mv (.t 18), (some 109), (some (108, false))⟩,
 ⟨.bin false .neq (.t 109) (.c (.int .i64 0)), (some 110), (some (108, false))⟩,
 ⟨.pick (.t 108) (.c (.bool true)) (.t 110), (some 111), none⟩]
@[irreducible] def mg_law30_ExposureCut_3 : List MOp := [⟨.mv (.t 12), (some 113), (some (112, false))⟩,
 ⟨.not (.t 113), (some 114), (some (112, false))⟩,
 ⟨.mv (.t 114), (some 115), (some (112, false))⟩,
 ⟨.mv (.t 15), (some 116), (some (115, true))⟩,
 ⟨.len false (.t 116), (some 117), (some (115, true))⟩,
 ⟨.bin false .gtr (.t 117) (.c (.int .i64 0)), (some 118), (some (115, true))⟩,
 ⟨.pick (.t 115) (.t 118) (.c (.bool false)), (some 119), (some (112, false))⟩,
 ⟨.pick (.t 112) (.c (.bool true)) (.t 119), (some 120), none⟩]
@[irreducible] def mc_law30_ExposureCut_L3 : MC :=
 (.seq (.reg [⟨.bin false .lss (.t 123) (.t 122), (some 124), none⟩])
 (.seq (.cond (.t 124)
 .skip
 (.exit 4))
 (.seq (.block 5
 (.seq (.reg [⟨.iad 2 (.t 121) (.t 123), (some 125), none⟩,
 ⟨.ld (some 2) (.t 125), (some 126), none⟩,
 ⟨.alloc [(.int .i64 0), (.int .i64 0)], (some 21), none⟩,
 ⟨.st 2 (.t 21) (.t 126), none, none⟩])
 (.seq (.reg [⟨.fad 1 (.t 21), (some 127), none⟩,
 ⟨.ld none (.t 127), (some 128), none⟩,
 ⟨.mv (.t 6), (some 129), none⟩,
 ⟨.bin false .leq (.t 128) (.t 129), (some 130), none⟩])
 (.cond (.t 130)
 (.reg [⟨.mv (.t 19), (some 131), none⟩,
 ⟨.ld (some 2) (.t 21), (some 132), none⟩,
 ⟨.bslice 2 [(.t 132)], (some 133), none⟩,
 ⟨.app 2 16 (.t 131) (.t 133), (some 134), none⟩,
 ⟨.mv (.t 134), (some 19), none⟩])
 .skip))))
 (.reg [⟨.bin true .add (.t 123) (.c (.int .i64 1)), (some 135), none⟩,
 ⟨.mv (.t 135), (some 123), none⟩]))))
@[irreducible] def mg_law30_ExposureCut_4 : List MOp := [⟨.call (.f 8) [] [] [], (some 140), (some (139, true))⟩,
 ⟨.pick (.t 139) (.t 140) (.c (.bool false)), (some 141), none⟩]
def mc_law30_ExposureCut : MC :=
 (.seq (.reg [⟨.mv (.c (.bool false)), (some 2), none⟩])
 (.seq (.seq (.reg [⟨.mv (.t 0), (some 22), none⟩,
 ⟨.len false (.t 22), (some 23), none⟩,
 ⟨.bin false .gtr (.t 23) (.c (.int .i64 400)), (some 24), none⟩])
 (.cond (.t 24)
 (.seq (.reg [⟨.call (.f 8) [] [] [], (some 25), none⟩,
 ⟨.mv (.t 25), (some 2), none⟩])
 .ret)
 .skip))
 (.seq (.reg [⟨.mv (.t 0), (some 26), none⟩,
 ⟨.build [(.sl []), (.int .i64 0)] [(0, 1, (.t 26))], (some 27), none⟩,
 ⟨.box (.t 27), (some 28), none⟩,
 ⟨.mv (.t 28), (some 3), none⟩])
 (.seq (.note (.gc [3, 81, 82, 83, 84, 85, 86, 87, 88, 89, 109, 110, 113, 114, 115, 116, 117, 118, 119, 140]) (.reg [⟨.mv (.t 3), (some 29), none⟩,
 ⟨.call (.f 9) [(.t 29)] [28] [], (some 30), none⟩,
 ⟨.alloc [(.sl []), (.sl [])], (some 4), none⟩,
 ⟨.st 2 (.t 4) (.t 30), none, none⟩]))
 (.seq (.reg [⟨.mv (.t 3), (some 31), none⟩,
 ⟨.ld (some 2) (.t 4), (some 32), none⟩,
 ⟨.call (.f 10) [(.t 31), (.t 32)] [28] [], (some 33), none⟩,
 ⟨.alloc [(.int .i64 0), (.sl [])], (some 5), none⟩,
 ⟨.st 2 (.t 5) (.t 33), none, none⟩])
 (.seq (.reg [⟨.mv (.t 3), (some 34), none⟩,
 ⟨.call (.f 11) [(.t 34), (.c (.int .i64 32))] [28] [], (some 35), none⟩,
 ⟨.mv (.t 3), (some 36), none⟩,
 ⟨.call (.f 11) [(.t 36), (.c (.int .i64 4))] [28] [], (some 37), none⟩,
 ⟨.mv (.t 35), (some 6), none⟩,
 ⟨.mv (.t 37), (some 7), none⟩])
 (.seq (.note (.gc [4, 5, 6, 7, 81, 82, 83, 84, 85, 86, 87, 88, 89, 109, 110, 113, 114, 115, 116, 117, 118, 119, 140]) (.reg [⟨.fad 0 (.t 4), (some 38), none⟩,
 ⟨.ld none (.t 38), (some 39), none⟩,
 ⟨.build [.nils, .nils] [(0, 1, (.t 39))], (some 40), none⟩,
 ⟨.alloc [(.sl []), (.sl [])], (some 8), none⟩,
 ⟨.st 2 (.t 8) (.t 40), none, none⟩]))
 (.seq (.seq (.reg [⟨.fad 1 (.t 4), (some 41), none⟩,
 ⟨.ld none (.t 41), (some 42), none⟩,
 ⟨.len false (.t 42), (some 43), none⟩,
 ⟨.mv (.c (.int .i64 0)), (some 44), none⟩])
 (.block 0
 (.loop mc_law30_ExposureCut_L1)))
 (.seq (.reg [⟨.fad 0 (.t 5), (some 59), none⟩,
 ⟨.ld none (.t 59), (some 60), none⟩,
 ⟨.build [(.int .i64 0), .nils] [(0, 1, (.t 60))], (some 61), none⟩,
 ⟨.alloc [(.int .i64 0), (.sl [])], (some 11), none⟩,
 ⟨.st 2 (.t 11) (.t 61), none, none⟩])
 (.seq (.reg [⟨.mv (.c (.bool false)), (some 12), none⟩])
 (.seq (.seq (.reg [⟨.fad 1 (.t 5), (some 62), none⟩,
 ⟨.ld none (.t 62), (some 63), none⟩,
 ⟨.len false (.t 63), (some 64), none⟩,
 ⟨.mv (.c (.int .i64 0)), (some 65), none⟩])
 (.block 2
 (.loop mc_law30_ExposureCut_L2)))
 (.seq (.reg [⟨.ld (some 2) (.t 4), (some 93), none⟩,
 ⟨.ld (some 2) (.t 5), (some 94), none⟩,
 ⟨.mv (.t 7), (some 95), none⟩,
 ⟨.call (.f 13) [(.t 93), (.t 94), (.t 95)] [] [], (some 96), none⟩,
 ⟨.mv (.t 96), (some 92), none⟩,
 ⟨.ext 0 (.t 92), (some 97), none⟩,
 ⟨.ext 1 (.t 92), (some 98), none⟩,
 ⟨.mv (.t 97), (some 15), none⟩,
 ⟨.mv (.t 98), (some 16), none⟩])
 (.seq (.note (.gc [6, 7, 8, 11, 12, 15, 16, 109, 110, 113, 114, 115, 116, 117, 118, 119, 140]) (.regI [.op ⟨.ld (some 2) (.t 8), (some 100), none⟩,
 .op ⟨.ld (some 2) (.t 11), (some 101), none⟩,
 .op ⟨.mv (.t 7), (some 102), none⟩,
 .nt (.fz 100),
 .nt (.fz 101),
 .op ⟨.call (.f 13) [(.t 100), (.t 101), (.t 102)] [] [], (some 103), none⟩,
 .op ⟨.mv (.t 103), (some 99), none⟩,
 .op ⟨.ext 0 (.t 99), (some 104), none⟩,
 .op ⟨.ext 1 (.t 99), (some 105), none⟩,
 .op ⟨.mv (.t 104), (some 17), none⟩,
 .op ⟨.mv (.t 105), (some 18), none⟩]))
 (.seq (.seq (.note (.gc [6, 12, 15, 16, 17, 18, 109, 110, 113, 114, 115, 116, 117, 118, 119, 140]) (.regI [.op ⟨.mv (.t 16), (some 106), none⟩,
 .op ⟨.bin false .neq (.t 106) (.c (.int .i64 0)), (some 107), none⟩,
 .op ⟨.mv (.t 107), (some 108), none⟩,
 .grp mg_law30_ExposureCut_2,
 .op ⟨.mv (.t 111), (some 112), none⟩,
 .grp mg_law30_ExposureCut_3]))
 (.cond (.t 120)
 (.seq (.reg [⟨.mv (.c (.bool false)), (some 2), none⟩])
 .ret)
 .skip))
 (.seq (.reg [⟨.mv (.c .nils), (some 19), none⟩])
 (.seq (.seq (.note (.gc [6, 15, 17, 19, 140]) (.reg [⟨.mv (.t 15), (some 121), none⟩,
 ⟨.len false (.t 121), (some 122), none⟩,
 ⟨.mv (.c (.int .i64 0)), (some 123), none⟩]))
 (.block 4
 (.loop mc_law30_ExposureCut_L3)))
 (.seq (.regI [.op ⟨.mv (.t 19), (some 136), none⟩,
 .op ⟨.mv (.t 17), (some 137), none⟩,
 .nt (.fz 136),
 .op ⟨.call (.f 14) [(.t 136), (.t 137)] [] [], (some 138), none⟩,
 .op ⟨.mv (.t 138), (some 139), none⟩,
 .grp mg_law30_ExposureCut_4,
 .op ⟨.mv (.t 141), (some 2), none⟩])
 .ret)))))))))))))))))
theorem ok_law30_ExposureCut : mc_law30_ExposureCut.ok Tryz.prog Tryz.f4.ntmps (Tryz.f4.body.getD .skip) = true := by kernel_rfl
set_option maxHeartbeats 2000000 in
theorem Wq_law30_ExposureCut (l_ : List Int) {Q : Bool → Prop} {Q' : V → Heap → Prop} (h : Ok (F_law30_ExposureCut l_) Q) (hQ : ∀ z, Q z → Q' (.bool z) []) : ACall Tryz.prog 4 [.sl (l_.map (V.int .i64))] [] Q' := by
  refine acall_machN [] [] [.t 2] Tryz.func4 rfl (by kernel_rfl) ok_law30_ExposureCut (by kernel_rfl) rfl rfl fun M hf => ?_
  clear hf
  unfold F_law30_ExposureCut at h
  unfold mc_law30_ExposureCut
  (try replace h := tH h)
  refine tB ?_
  repeat' (first
  |(exact hQ _ h)
  |(exact trivial)
  |(exact False.elim h)
  |(have hq := hQ _ h; replace hq := tH hq; exact hq)
  |(refine oblg h ?_; clear h; intro hc h)
  |(refine roomG h ?_; clear h; intro hc h)
  |(refine fork h ?_ ?_ <;> clear h <;> intro hc h)
  |(refine forkS h ?_ ?_ <;> clear h <;> intro hc h)
  |(refine And.intro (chkD_of rfl) ?_)
  |(obtain ⟨y, hy, h⟩ := h; (first | (with_reducible first | have hw := W_law30_awake hy | have hw := W_exposure_All hy | have hw := W_ref30_Same hy) | have hw := acall_swe 1000 28 (W_made_Directory hy) | have hw := acall_swe 1000 28 (W_made_Estate hy) | have hw := acall_swe 1000 28 (W_made_Tape_Next hy)); (try replace hw := tH hw); (first | (refine sCall_of hw rfl rfl ?_; rw [M.lok_eq]) | (refine sCallD_of hw rfl rfl ?_; rw [M.lokD_eq])); clear hw; clear hy; refine tB ?_)
  |(refine M.fold1 (b := mc_law30_ExposureCut_L1) 44 [4, 5, 6, 7, 8, 42, 43] [5, 4] (fun x => []) (fun x => [.o 8 (.cells [.sl (x.1.map (V.int .i64)), .osl 4129 4 0 x.2.length]), .o 4129 (.arr 4 (x.2.map GMember.v))]) [.gc [4, 5, 6, 7, 8, 42, 43, 44], .ownC 8 1 4129 4 none] h ?_ ?_ ?_ <;> first
   |(clear h; intro k a x Qn K hK1 hkN1 ha1 h hf; have hl := fact_int (factsE_find (n := 43) hf.1 rfl); clear hf; have hkd := kD hkN1; have hkB1 := kB hkN1; have hkI1 : in64 ((k : Int) + 1) = true := in64_iff.2 ⟨by omega, by (try simp only [List.length_cons, List.length_nil] at hkN1); omega⟩; unfold F_law30_ExposureCut_L1 at h; unfold mc_law30_ExposureCut_L1; (try replace h := tH h); refine tK ha1 hkd hkN1 hkB1 hkI1 ?_)
   |(clear h; intro x K h; replace h := And.left (And.intro h trivial); unfold mc_law30_ExposureCut_L1; (try replace h := tH h); refine tB ?_)
   |(clear h; (try refine tB ?_); exact tU0; done)
       | fail)
  |(refine M.gv1 (ms := mg_law30_ExposureCut_1) 90 [81, 82, 83, 84, 85, 86, 87, 88, 89] h ?_ ?_ <;> first
   |(clear h; intro K hK2; unfold mg_law30_ExposureCut_1; refine tB ?_)
   |(clear h; intro b h; (try replace h := tH h); refine tB ?_)
       | fail)
  |(refine M.jn1 (b := mc_law30_ExposureCut_J1) [4, 5, 6, 7, 8, 11, 12, 14, 63, 64, 65] [14, 11, 8, 4129, 5, 4] (fun y => []) (fun y => [.p 11 1 [.osl 4177 7 0 y.length], .o 4177 (.arr 7 (y.map GAccess.v))]) [.gc [4, 5, 6, 7, 8, 11, 12, 14, 63, 64, 65], .ownC 11 1 4177 7 none] h ?_ ?_ <;> first
   |(clear h; intro Qn K hK3 h; (try replace h := tH h); refine tB ?_)
   |(clear h; intro y h; unfold mc_law30_ExposureCut_J1; (try replace h := tH h); refine tB ?_)
       | fail)
  |(refine M.fold1 (b := mc_law30_ExposureCut_L2) 65 [4, 5, 6, 7, 8, 11, 63, 64] [8, 4129, 5, 4] (fun x => [(12, .bool x.1)]) (fun x => [.o 11 (.cells [.int .i64 x.2.1, .osl 4177 7 0 x.2.2.length]), .o 4177 (.arr 7 (x.2.2.map GAccess.v))]) [.gc [4, 5, 6, 7, 8, 11, 12, 63, 64, 65], .ownC 11 1 4177 7 none] h ?_ ?_ ?_ <;> first
   |(clear h; intro k a x Qn K hK4 hkN4 ha4 h hf; have hl := fact_int (factsE_find (n := 64) hf.1 rfl); clear hf; have hkd := kD hkN4; have hkB4 := kB hkN4; have hkI4 : in64 ((k : Int) + 1) = true := in64_iff.2 ⟨by omega, by (try simp only [List.length_cons, List.length_nil] at hkN4); omega⟩; unfold F_law30_ExposureCut_L2 at h; unfold mc_law30_ExposureCut_L2; (try replace h := tH h); refine tK ha4 hkd hkN4 hkB4 hkI4 ?_)
   |(clear h; intro x K h; replace h := And.left (And.intro h trivial); unfold mc_law30_ExposureCut_L2; (try replace h := tH h); refine tB ?_)
   |(clear h; (try refine tB ?_); exact tU0; done)
       | fail)
  |(refine M.fold1 (b := mc_law30_ExposureCut_L3) 123 [6, 17, 121, 122] [] (fun x => [(19, .osl 2019 2 0 x.length)]) (fun x => [.o 2019 (.arr 2 (x.map GExposure.v))]) [.gc [6, 17, 19, 121, 122, 123], .acc 19 2019 2] h ?_ ?_ ?_ <;> first
   |(clear h; intro k a x Qn K hK5 hkN5 ha5 h hf; have hl := fact_int (factsE_find (n := 122) hf.1 rfl); clear hf; have hkd := kD hkN5; have hkB5 := kB hkN5; have hkI5 : in64 ((k : Int) + 1) = true := in64_iff.2 ⟨by omega, by (try simp only [List.length_cons, List.length_nil] at hkN5); omega⟩; unfold F_law30_ExposureCut_L3 at h; unfold mc_law30_ExposureCut_L3; (try replace h := tH h); refine tK ha5 hkd hkN5 hkB5 hkI5 ?_)
   |(clear h; intro x K h; replace h := And.left (And.intro h trivial); unfold mc_law30_ExposureCut_L3; (try replace h := tH h); refine tB ?_)
   |(clear h; (try refine tB ?_); exact tU0; done)
       | fail)
  |(refine M.gj1 (ms := mg_law30_ExposureCut_4) [] [] (fun y => [(141, .bool y)]) (fun y => []) h ?_ ?_ <;> first
   |(clear h; intro Qn K hK6 h; unfold mg_law30_ExposureCut_4; (try replace h := tH h); refine tB ?_)
   |(clear h; intro y h; (try replace h := tH h); refine tB ?_)
       | fail)
  |(refine M.gv1 (ms := mg_law30_ExposureCut_3) 120 [113, 114, 115, 116, 117, 118, 119] h ?_ ?_ <;> first
   |(clear h; intro K hK7; unfold mg_law30_ExposureCut_3; refine tB ?_)
   |(clear h; intro b h; (try replace h := tH h); refine tB ?_)
       | fail)
  |(refine M.gv1 (ms := mg_law30_ExposureCut_2) 111 [109, 110] h ?_ ?_ <;> first
   |(clear h; intro K hK8; unfold mg_law30_ExposureCut_2; refine tB ?_)
   |(clear h; intro b h; (try replace h := tH h); refine tB ?_)
       | fail)
  |(refine And.intro (by first | exact hkI1 | exact hkN1 | exact hkB1 | exact hkI4 | exact hkN4 | exact hkB4 | exact hkI5 | exact hkN5 | exact hkB5) ?_)
  |(first | simp only [ha1] | simp only [ha4] | simp only [ha5])
  |((first | refine hK1 _ ?_ | refine hK3 _ ?_ | refine hK4 _ ?_ | refine hK5 _ ?_ | refine hK6 _ ?_); (try refine tB ?_); refine ⟨_, h, ?_⟩; exact tU0; done)
  |((first | refine hK2 _ ?_ | refine hK7 _ ?_ | refine hK8 _ ?_); exact tU; done)
  |(refine bfork (fun hc => ?_) (fun hc => ?_))
  |(refine ⟨_, getE_map (inb_toNat (by assumption)), ?_⟩; (first | rw [M.lok_compU] | rw [M.lokD_compU]); refine tB ?_)
  |(refine And.intro (ltb_of (by assumption)) ?_)
  |(refine And.intro (inb_nat (by assumption)) ?_)
  |(refine And.intro (by omega) ?_)
    | fail)
theorem W_law30_ExposureCut : ∀ {l_ : List Int} {y : Bool}, F_law30_ExposureCut l_ = some y → ACall Tryz.prog 4 [.sl (l_.map (V.int .i64))] [] (fun r H => r = .bool y ∧ H = []) :=
  fun hy => Wq_law30_ExposureCut _ (Q := fun z => z = _) ⟨_, hy, rfl⟩ fun z e => by subst e; exact ⟨rfl, rfl⟩
end Go.Ab
