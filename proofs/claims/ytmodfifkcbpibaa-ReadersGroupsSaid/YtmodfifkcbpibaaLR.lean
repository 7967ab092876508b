/- What the functions of this seat that lie on the laws' road compute (part LR), each for every input. By AI agents. -/
import Derived.Test.YtmodfifkcbpibaaProg
import Derived.KernelRfl
import Derived.Test.YtmodfifkcbpibaaAbFun
import Derived.Test.YtmodfifkcbpibaaLC
set_option linter.all false
set_option linter.all false
set_option maxRecDepth 20000
set_option maxHeartbeats 2000000
namespace Go.Ab
open Go.Proofs
noncomputable def F_law28_ReadersGroups_L1 (y16 : Int × GTape) (k36 : Int) (a37 : Int) (x35 : List GAccess) : Option (List GAccess) :=
 chk (room (x35.length + [(GAccess.mk y16.1 1 0 a37 0 0 0)].length) 56) (some (x35 ++ [(GAccess.mk y16.1 1 0 a37 0 0 0)]))
noncomputable def F_law28_ReadersGroups (l_ : List Int) : Option Bool :=
 bif decide (400 < (l_.length : Int)) then F_law28_awake.bind fun y4 => some y4 else (F_made_Directory (GTape.mk l_ 0)).bind fun y6 => (F_made_Groups y6.1).bind fun y8 => bif decide ((y8.length : Int) = 0) then F_law28_awake.bind fun y12 => some y12 else (F_made_Tape_Next y6.2 (y8.length : Int)).bind fun y15 => chk (inb y15.1 y8.length) ((F_made_Tape_Next y15.2 24).bind fun y16 => (F_ref23_Members y6.1 (y8.getD (y15.1).toNat default) y16.1).bind fun y29 => (foldL (F_law28_ReadersGroups_L1 y16) y29 0 []).bind fun x38 => (F_readers_Who y6.1 (GEstate.mk 1 [(GAccess.mk y16.1 1 0 (y8.getD (y15.1).toNat default) 0 0 0)]) 0 y16.1).bind fun y40 => (F_readers_Who y6.1 (GEstate.mk 1 x38) 0 y16.1).bind fun y42 => bif decide (y40.2 = 0) then bif decide (y42.2 = 0) then (F_ref28_Same y40.1 y42.1).bind fun y47 => bif y47 then (F_ref23_Members y6.1 (y8.getD (y15.1).toNat default) y16.1).bind fun y48 => (F_ref23_Ints y40.1.Principals y48).bind fun y49 => bif y49 then F_law28_awake.bind fun y50 => some y50 else some false else some false else some false else some false)
@[irreducible] def mc_law28_ReadersGroups_L1 : MC :=
 (.seq (.reg [mo (.bin false .lss (.t 51) (.t 50)) 52])
 (.seq (.cond (.t 52)
 .skip
 (.exit 0))
 (.seq (.block 1
 (.seq (.reg [mo (.iad 1 (.t 49) (.t 51)) 53,
 mo (.ld none (.t 53)) 54,
 mo (.mv (.t 54)) 11])
 (.reg [mo (.fad 1 (.t 9)) 55,
 mo (.ld none (.t 55)) 56,
 mo (.mv (.t 7)) 57,
 mo (.mv (.t 11)) 58,
 mo (.build [(.int .i64 0), (.int .i64 0), (.int .i64 0), (.int .i64 0), (.int .i64 0), (.int .i64 0), (.int .i64 0)] [(0, 1, (.t 57)), (1, 1, (.c (.int .i64 1))), (3, 1, (.t 58))]) 59,
 mo (.bslice 7 [(.t 59)]) 60,
 mo (.app 7 56 (.t 56) (.t 60)) 61,
 mo (.fad 1 (.t 9)) 62,
 ⟨.st 1 (.t 62) (.t 61), none, none⟩])))
 (.reg [mo (.bin true .add (.t 51) (.c (.int .i64 1))) 63,
 mo (.mv (.t 63)) 51]))))
def mc_law28_ReadersGroups : MC :=
 (.seq (.reg [mo (.mv (.c (.bool false))) 2])
 (.seq (.seq (.reg [mo (.mv (.t 0)) 16,
 mo (.len false (.t 16)) 17,
 mo (.bin false .gtr (.t 17) (.c (.int .i64 400))) 18])
 (.cond (.t 18)
 (.seq (.reg [mo (.call (.f 7) [] [] []) 19,
 mo (.mv (.t 19)) 2])
 .ret)
 .skip))
 (.seq (.reg [mo (.mv (.t 0)) 20,
 mo (.build [(.sl []), (.int .i64 0)] [(0, 1, (.t 20))]) 21,
 mo (.box (.t 21)) 22,
 mo (.mv (.t 22)) 3])
 (.seq (.note (.gc [3, 81, 82, 85, 86, 87, 90, 91, 92, 93, 94, 95, 96, 99]) (.reg [mo (.mv (.t 3)) 23,
 mo (.call (.f 8) [(.t 23)] [22] []) 24,
 mo (.alloc [(.sl []), (.sl [])]) 4,
 ⟨.st 2 (.t 4) (.t 24), none, none⟩]))
 (.seq (.reg [mo (.ld (some 2) (.t 4)) 25,
 mo (.call (.f 18) [(.t 25)] [] []) 26,
 mo (.mv (.t 26)) 5])
 (.seq (.seq (.reg [mo (.mv (.t 5)) 27,
 mo (.len false (.t 27)) 28,
 mo (.bin false .eql (.t 28) (.c (.int .i64 0))) 29])
 (.cond (.t 29)
 (.seq (.reg [mo (.call (.f 7) [] [] []) 30,
 mo (.mv (.t 30)) 2])
 .ret)
 .skip))
 (.seq (.regD [mo (.mv (.t 5)) 31,
 mo (.mv (.t 3)) 32,
 mo (.mv (.t 5)) 33,
 mo (.len false (.t 33)) 34,
 mo (.call (.f 10) [(.t 32), (.t 34)] [22] []) 35,
 mo (.iad 1 (.t 31) (.t 35)) 36,
 mo (.ld none (.t 36)) 37,
 mo (.mv (.t 3)) 38,
 mo (.call (.f 10) [(.t 38), (.c (.int .i64 24))] [22] []) 39,
 mo (.mv (.t 37)) 6,
 mo (.mv (.t 39)) 7]
 [[], [], [], [2], [1, 3], [0, 4], [5], [], [7, 4], [6, 8, 0, 1, 2, 3, 4, 5, 6], [8, 9, 0, 1, 2, 3, 4, 5, 6, 7, 8, 9]]
 [[], [], [], [2], [1, 2, 3], [0, 1, 2, 3, 4], [0, 1, 2, 3, 4, 5], [], [1, 2, 3, 4, 7], [0, 1, 2, 3, 4, 5, 6, 7, 8], [0, 1, 2, 3, 4, 5, 6, 7, 8, 9]])
 (.seq (.note (.gc [4, 6, 7, 81, 82, 85, 86, 87, 90, 91, 92, 93, 94, 95, 96, 99]) (.reg [mo (.mv (.t 7)) 40,
 mo (.mv (.t 6)) 41,
 mo (.build [(.int .i64 0), (.int .i64 0), (.int .i64 0), (.int .i64 0), (.int .i64 0), (.int .i64 0), (.int .i64 0)] [(0, 1, (.t 40)), (1, 1, (.c (.int .i64 1))), (3, 1, (.t 41))]) 42,
 mo (.bslice 7 [(.t 42)]) 43,
 mo (.build [(.int .i64 0), (.sl [])] [(0, 1, (.c (.int .i64 1))), (1, 1, (.t 43))]) 44,
 mo (.alloc [(.int .i64 0), (.sl [])]) 8,
 ⟨.st 2 (.t 8) (.t 44), none, none⟩]))
 (.seq (.reg [mo (.build [(.int .i64 0), .nils] [(0, 1, (.c (.int .i64 1)))]) 45,
 mo (.alloc [(.int .i64 0), (.sl [])]) 9,
 ⟨.st 2 (.t 9) (.t 45), none, none⟩])
 (.seq (.seq (.reg [mo (.ld (some 2) (.t 4)) 46,
 mo (.mv (.t 6)) 47,
 mo (.mv (.t 7)) 48,
 mo (.call (.f 19) [(.t 46), (.t 47), (.t 48)] [] []) 49,
 mo (.len false (.t 49)) 50,
 mo (.mv (.c (.int .i64 0))) 51])
 (.block 0
 (.loop mc_law28_ReadersGroups_L1)))
 (.seq (.regI [.op (mo (.ld (some 2) (.t 4)) 65),
 .op (mo (.ld (some 2) (.t 8)) 66),
 .op (mo (.mv (.t 7)) 67),
 .nt (.fz 66),
 .op (mo (.call (.f 11) [(.t 65), (.t 66), (.c (.int .i64 0)), (.t 67)] [] []) 68),
 .op (mo (.mv (.t 68)) 64),
 .op (mo (.ext 0 (.t 64)) 69),
 .op (mo (.ext 1 (.t 64)) 70),
 .op (mo (.alloc [(.bool false), (.sl [])]) 12),
 .op ⟨.st 2 (.t 12) (.t 69), none, none⟩,
 .op (mo (.mv (.t 70)) 13)])
 (.seq (.note (.gc [4, 6, 7, 9, 12, 13, 81, 82, 85, 86, 87, 90, 91, 92, 93, 94, 95, 96, 99]) (.regI [.op (mo (.ld (some 2) (.t 4)) 72),
 .op (mo (.ld (some 2) (.t 9)) 73),
 .op (mo (.mv (.t 7)) 74),
 .nt (.fz 73),
 .op (mo (.call (.f 11) [(.t 72), (.t 73), (.c (.int .i64 0)), (.t 74)] [] []) 75),
 .op (mo (.mv (.t 75)) 71),
 .op (mo (.ext 0 (.t 71)) 76),
 .op (mo (.ext 1 (.t 71)) 77),
 .op (mo (.alloc [(.bool false), (.sl [])]) 14),
 .op ⟨.st 2 (.t 14) (.t 76), none, none⟩,
 .op (mo (.mv (.t 77)) 15)]))
 (.seq (.note (.gc [4, 6, 7, 12, 13, 14, 15, 81, 82, 85, 86, 87, 90, 91, 92, 93, 94, 95, 96, 99]) (.regD [mo (.mv (.t 13)) 78,
 mo (.bin false .eql (.t 78) (.c (.int .i64 0))) 79,
 mo (.mv (.t 79)) 80,
 ⟨.mv (.t 15), (some 81), (some (80, true))⟩,
 ⟨.bin false .eql (.t 81) (.c (.int .i64 0)), (some 82), (some (80, true))⟩,
 mo (.pick (.t 80) (.t 82) (.c (.bool false))) 83,
 mo (.mv (.t 83)) 84,
 ⟨.ld (some 2) (.t 12), (some 85), (some (84, true))⟩,
 ⟨.ld (some 2) (.t 14), (some 86), (some (84, true))⟩,
 ⟨.call (.f 20) [(.t 85), (.t 86)] [] [], (some 87), (some (84, true))⟩,
 mo (.pick (.t 84) (.t 87) (.c (.bool false))) 88,
 mo (.mv (.t 88)) 89,
 ⟨.fad 1 (.t 12), (some 90), (some (89, true))⟩,
 ⟨.ld none (.t 90), (some 91), (some (89, true))⟩,
 ⟨.ld (some 2) (.t 4), (some 92), (some (89, true))⟩,
 ⟨.mv (.t 6), (some 93), (some (89, true))⟩,
 ⟨.mv (.t 7), (some 94), (some (89, true))⟩,
 ⟨.call (.f 19) [(.t 92), (.t 93), (.t 94)] [] [], (some 95), (some (89, true))⟩,
 ⟨.call (.f 21) [(.t 91), (.t 95)] [] [], (some 96), (some (89, true))⟩,
 mo (.pick (.t 89) (.t 96) (.c (.bool false))) 97,
 mo (.mv (.t 97)) 98,
 ⟨.call (.f 7) [] [] [], (some 99), (some (98, true))⟩,
 mo (.pick (.t 98) (.t 99) (.c (.bool false))) 100,
 mo (.mv (.t 100)) 2]
 [[], [0], [1], [2], [3, 2], [2, 4], [5, 2], [6], [6], [7, 8, 6, 6], [6, 9], [10, 9], [11], [12, 11], [11], [11], [11], [14, 15, 16, 11, 11], [13, 17, 17, 11], [11, 18], [19, 18], [20, 20], [20, 21], [22, 21, 0, 1, 2, 3, 4, 5, 6, 7, 8, 9, 10, 11, 12, 13, 14, 15, 16, 17, 18, 19, 20, 21, 22]]
 [[], [0], [0, 1], [0, 1, 2], [0, 1, 2, 3], [0, 1, 2, 3, 4], [0, 1, 2, 3, 4, 5], [0, 1, 2, 3, 4, 5, 6], [0, 1, 2, 3, 4, 5, 6], [0, 1, 2, 3, 4, 5, 6, 7, 8], [0, 1, 2, 3, 4, 5, 6, 7, 8, 9], [0, 1, 2, 3, 4, 5, 6, 7, 8, 9, 10], [0, 1, 2, 3, 4, 5, 6, 7, 8, 9, 10, 11], [0, 1, 2, 3, 4, 5, 6, 7, 8, 9, 10, 11, 12], [0, 1, 2, 3, 4, 5, 6, 7, 8, 9, 10, 11], [0, 1, 2, 3, 4, 5, 6, 7, 8, 9, 10, 11], [0, 1, 2, 3, 4, 5, 6, 7, 8, 9, 10, 11], [0, 1, 2, 3, 4, 5, 6, 7, 8, 9, 10, 11, 14, 15, 16], [0, 1, 2, 3, 4, 5, 6, 7, 8, 9, 10, 11, 12, 13, 14, 15, 16, 17], [0, 1, 2, 3, 4, 5, 6, 7, 8, 9, 10, 11, 12, 13, 14, 15, 16, 17, 18], [0, 1, 2, 3, 4, 5, 6, 7, 8, 9, 10, 11, 12, 13, 14, 15, 16, 17, 18, 19], [0, 1, 2, 3, 4, 5, 6, 7, 8, 9, 10, 11, 12, 13, 14, 15, 16, 17, 18, 19, 20], [0, 1, 2, 3, 4, 5, 6, 7, 8, 9, 10, 11, 12, 13, 14, 15, 16, 17, 18, 19, 20, 21], [0, 1, 2, 3, 4, 5, 6, 7, 8, 9, 10, 11, 12, 13, 14, 15, 16, 17, 18, 19, 20, 21, 22]]))
 .ret)))))))))))))
theorem ok_law28_ReadersGroups : mc_law28_ReadersGroups.ok Try.prog Try.f5.ntmps (Try.f5.body.getD .skip) = true := by kernel_rfl
theorem Wq_law28_ReadersGroups (l_ : List Int) {Q : Bool → Prop} {Q' : V → Heap → Prop} (h : Ok (F_law28_ReadersGroups l_) Q) (hQ : ∀ z, Q z → Q' (.bool z) []) : ACall Try.prog 5 [.sl (l_.map (V.int .i64))] [] Q' := by
 refine acall_machN [] [] [.t 2] Try.func5 rfl (by kernel_rfl) ok_law28_ReadersGroups (by kernel_rfl) rfl rfl fun M hf => ?_
 clear hf
 unfold F_law28_ReadersGroups at h
 unfold mc_law28_ReadersGroups
 (try replace h := tH h)
 refine tB ?_
 repeat' (first
 |(exact hQ _ h)
 |(exact trivial)
 |(exact False.elim h)
 |(have hq := hQ _ h; replace hq := tH hq; exact hq)
 |((first | refine oblg h ?_ | refine roomG h ?_ | refine fork h ?_ ?_ | refine forkS h ?_ ?_) <;> clear h <;> intro hc h)
 |(refine And.intro (chkD_of rfl) ?_)
 |(obtain ⟨y, hy, h⟩ := h; (first | (with_reducible first | have hw := W_law28_awake hy | have hw := W_made_Groups hy | have hw := W_ref23_Members hy | have hw := W_readers_Who hy | have hw := W_ref28_Same hy | have hw := W_ref23_Ints hy) | have hw := acall_swe 1000 22 (W_made_Directory hy) | have hw := acall_swe 1000 22 (W_made_Tape_Next hy)); (try replace hw := tH hw); (first | (refine sCall_of hw rfl rfl ?_; rw [M.lok_eq]) | (refine sCallD_of hw rfl rfl ?_; rw [M.lokD_eq])); clear hw; clear hy; refine tB ?_)
 |(refine M.fold1 (b := mc_law28_ReadersGroups_L1) 51 [4, 6, 7, 8, 9, 49, 50] [9, 8, 43, 4] (fun x => []) (fun x => [.p 9 1 [.osl 4145 7 0 x.length], .o 4145 (.arr 7 (x.map GAccess.v))]) [.gc [4, 6, 7, 8, 9, 49, 50, 51], .ownC 9 1 4145 7 none] h ?_ ?_ ?_ <;> first
  |(clear h; intro k a x Qn K hK1 hkN1 ha1 h hf; have hl := fact_int (factsE_find (n := 50) hf.1 rfl); clear hf; have hkd := kD hkN1; have hkB1 := kB hkN1; have hkI1 := kI (k := k) (by omega); unfold F_law28_ReadersGroups_L1 at h; unfold mc_law28_ReadersGroups_L1; (try replace h := tH h); refine tK ha1 hkd hkN1 hkB1 hkI1 ?_)
  |(clear h; intro x K h; replace h := And.left (And.intro h trivial); unfold mc_law28_ReadersGroups_L1; (try replace h := tH h); refine tB ?_)
  |(clear h; (try refine tB ?_); exact tU0; done)
      | fail)
 |(refine And.intro (by first | exact hkI1 | exact hkN1 | exact hkB1) ?_)
 |(simp only [ha1])
 |(refine hK1 _ ?_; (try refine tB ?_); refine ⟨_, h, ?_⟩; exact tU0; done)
 |(refine ⟨_, getE_map (inb_toNat (by assumption)), ?_⟩; (first | rw [M.lok_compU] | rw [M.lokD_compU]); refine tB ?_)
 |(refine And.intro (ltb_of (by assumption)) ?_)
 |(refine And.intro (inb_nat (by assumption)) ?_)
 |(refine And.intro (by omega) ?_)
   | fail)
theorem W_law28_ReadersGroups : ∀ {l_ : List Int} {y : Bool}, F_law28_ReadersGroups l_ = some y → ACall Try.prog 5 [.sl (l_.map (V.int .i64))] [] (fun r H => r = .bool y ∧ H = []) :=
 fun hy => Wq_law28_ReadersGroups _ (Q := (· = _)) ⟨_, hy, rfl⟩ fun | _, rfl => ⟨rfl, rfl⟩
end Go.Ab
