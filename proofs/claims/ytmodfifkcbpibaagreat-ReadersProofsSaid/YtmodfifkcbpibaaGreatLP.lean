/- What the functions of this seat that lie on the laws' road compute (part LP), each for every input. By AI agents. -/
import Derived.Test.YtmodfifkcbpibaaGreatProg
import Derived.KernelRfl
import Derived.Test.YtmodfifkcbpibaaGreatAbFun
import Derived.Test.YtmodfifkcbpibaaGreatLD
set_option linter.all false
set_option linter.all false
set_option maxRecDepth 20000
set_option maxHeartbeats 2000000
namespace Go.Ab
open Go.Proofs
noncomputable def F_law28_ReadersProofs_L1 (y6 : GDirectory × GTape) (y8 : GEstate × GTape) (y11 : Int × GTape) (y12 : Int × GTape) (k243 : Int) (a244 : Int) (x242 : Unit) : Option (Fl Unit Bool) :=
 (F_readers_Why y6.1 y8.1 k243 y11.1 y12.1).bind fun y312 => (F_ref23_Reader y6.1 k243).bind fun y320 => bif (!y320) then bif y312.2 then some (.ex false) else (F_readers_May y6.1 y8.1 k243 y11.1 y12.1).bind fun y324 => bif y324 then some (.ex false) else some (.nx ()) else (F_ref23_Upward y6.1 k243 y12.1).bind fun y327 => (F_readers_Refutes y6.1 y8.1 k243 y11.1 y12.1 y327).bind fun y328 => bif (y312.2 == y328) then some (.ex false) else (F_readers_May y6.1 y8.1 k243 y11.1 y12.1).bind fun y331 => bif (!(y312.2 == y331)) then some (.ex false) else bif y312.2 then (F_readers_Proves y6.1 y8.1 k243 y312.1).bind fun y332 => bif (!y332) then some (.ex false) else some (.nx ()) else some (.nx ())
noncomputable def F_law28_ReadersProofs (l_ : List Int) : Option Bool :=
 bif decide (400 < (l_.length : Int)) then F_law28_awake.bind fun y4 => some y4 else (F_made_Directory (GTape.mk l_ 0)).bind fun y6 => (F_made_Estate y6.2 y6.1).bind fun y8 => (F_made_Tape_Next y8.2 y8.1.Places).bind fun y11 => (F_made_Tape_Next y11.2 32).bind fun y12 => (forL (F_law28_ReadersProofs_L1 y6 y8 y11 y12) y6.1.Kinds 0 ()).bind fun o => o.elim (fun x333 => F_law28_awake.bind fun y336 => some y336) (fun r334 => some r334)
@[irreducible] def mc_law28_ReadersProofs_L1 : MC :=
 (.seq (.reg [mo (.bin false .lss (.t 33) (.t 32)) 34])
 (.seq (.cond (.t 34)
 .skip
 (.exit 0))
 (.seq (.block 1
 (.seq (.reg [mo (.mv (.t 33)) 35,
 mo (.mv (.t 35)) 8])
 (.seq (.reg [mo (.ld (some 2) (.t 4)) 37,
 mo (.ld (some 2) (.t 5)) 38,
 mo (.mv (.t 8)) 39,
 mo (.mv (.t 6)) 40,
 mo (.mv (.t 7)) 41,
 mo (.call (.f 13) [(.t 37),(.t 38),(.t 39),(.t 40),(.t 41)] [] []) 42,
 mo (.mv (.t 42)) 36,
 mo (.ext 0 (.t 36)) 43,
 mo (.ext 1 (.t 36)) 44,
 mo (.alloc [(.int .i64 0),(.int .i64 0),(.int .i64 0),(.int .i64 0),(.sl [])]) 9,
 ⟨.st 5 (.t 9) (.t 43), none, none⟩,
 mo (.mv (.t 44)) 10])
 (.seq (.seq (.note (.gc [4,5,6,7,8,9,10,32,33,51,52,53,54,55,56,72,73,74,75,76,77,78,79,82,83,84,85,86,87,88,89,90]) (.reg [mo (.ld (some 2) (.t 4)) 45,
 mo (.mv (.t 8)) 46,
 mo (.call (.f 22) [(.t 45),(.t 46)] [] []) 47,
 mo (.not (.t 47)) 48]))
 (.cond (.t 48)
 (.seq (.seq (.reg [mo (.mv (.t 10)) 49,
 mo (.mv (.t 49)) 50,
 ⟨.ld (some 2) (.t 4), (some 51), (some (50, false))⟩,
 ⟨.ld (some 2) (.t 5), (some 52), (some (50, false))⟩,
 ⟨.mv (.t 8), (some 53), (some (50, false))⟩,
 ⟨.mv (.t 6), (some 54), (some (50, false))⟩,
 ⟨.mv (.t 7), (some 55), (some (50, false))⟩,
 ⟨.call (.f 14) [(.t 51),(.t 52),(.t 53),(.t 54),(.t 55)] [] [], (some 56), (some (50, false))⟩,
 mo (.pick (.t 50) (.c (.bool true)) (.t 56)) 57])
 (.cond (.t 57)
 (.seq (.reg [mo (.mv (.c (.bool false))) 2])
 .ret)
 .skip))
 (.exit 1))
 .skip))
 (.seq (.regD [mo (.ld (some 2) (.t 4)) 58,
 mo (.ld (some 2) (.t 5)) 59,
 mo (.mv (.t 8)) 60,
 mo (.mv (.t 6)) 61,
 mo (.mv (.t 7)) 62,
 mo (.ld (some 2) (.t 4)) 63,
 mo (.mv (.t 8)) 64,
 mo (.mv (.t 7)) 65,
 mo (.call (.f 19) [(.t 63),(.t 64),(.t 65)] [] []) 66,
 mo (.call (.f 20) [(.t 58),(.t 59),(.t 60),(.t 61),(.t 62),(.t 66)] [] []) 67,
 mo (.mv (.t 67)) 11]
 [[],[],[],[],[],[],[],[],[5,6,7],[0,1,2,3,4,8,8],[9,9,0,1,2,3,4,5,6,7,8,9]]
 [[],[],[],[],[],[],[],[],[5,6,7],[0,1,2,3,4,5,6,7,8],[0,1,2,3,4,5,6,7,8,9]])
 (.seq (.note (.gc [4,5,6,7,8,9,10,11,32,33,51,52,53,54,55,56,72,73,74,75,76,77,78,79,82,83,84,85,86,87,88,89,90]) (.reg [mo (.mv (.t 10)) 68,
 mo (.mv (.t 11)) 69,
 mo (.beq false (.t 68) (.t 69)) 70,
 mo (.mv (.t 70)) 71,
 ⟨.mv (.t 10), (some 72), (some (71, false))⟩,
 ⟨.ld (some 2) (.t 4), (some 73), (some (71, false))⟩,
 ⟨.ld (some 2) (.t 5), (some 74), (some (71, false))⟩,
 ⟨.mv (.t 8), (some 75), (some (71, false))⟩,
 ⟨.mv (.t 6), (some 76), (some (71, false))⟩,
 ⟨.mv (.t 7), (some 77), (some (71, false))⟩,
 ⟨.call (.f 14) [(.t 73),(.t 74),(.t 75),(.t 76),(.t 77)] [] [], (some 78), (some (71, false))⟩,
 ⟨.beq true (.t 72) (.t 78), (some 79), (some (71, false))⟩,
 mo (.pick (.t 71) (.c (.bool true)) (.t 79)) 80,
 mo (.mv (.t 80)) 81,
 ⟨.mv (.t 10), (some 82), (some (81, false))⟩,
 ⟨.mv (.t 82), (some 83), (some (81, false))⟩,
 ⟨.ld (some 2) (.t 4), (some 84), (some (83, true))⟩,
 ⟨.ld (some 2) (.t 5), (some 85), (some (83, true))⟩,
 ⟨.mv (.t 8), (some 86), (some (83, true))⟩,
 ⟨.ld (some 5) (.t 9), (some 87), (some (83, true))⟩,
 ⟨.call (.f 17) [(.t 84),(.t 85),(.t 86),(.t 87)] [] [], (some 88), (some (83, true))⟩,
 ⟨.not (.t 88), (some 89), (some (83, true))⟩,
 ⟨.pick (.t 83) (.t 89) (.c (.bool false)), (some 90), (some (81, false))⟩,
 mo (.pick (.t 81) (.c (.bool true)) (.t 90)) 91]))
 (.cond (.t 91)
 (.seq (.reg [mo (.mv (.c (.bool false))) 2])
 .ret)
 .skip)))))))
 (.reg [mo (.bin true .add (.t 33) (.c (.int .i64 1))) 92,
 mo (.mv (.t 92)) 33]))))
def mc_law28_ReadersProofs : MC :=
 (.seq (.reg [mo (.mv (.c (.bool false))) 2])
 (.seq (.seq (.reg [mo (.mv (.t 0)) 12,
 mo (.len false (.t 12)) 13,
 mo (.bin false .gtr (.t 13) (.c (.int .i64 400))) 14])
 (.cond (.t 14)
 (.seq (.reg [mo (.call (.f 5) [] [] []) 15,
 mo (.mv (.t 15)) 2])
 .ret)
 .skip))
 (.seq (.reg [mo (.mv (.t 0)) 16,
 mo (.build [(.sl []),(.int .i64 0)] [(0,1,(.t 16))]) 17,
 mo (.box (.t 17)) 18,
 mo (.mv (.t 18)) 3])
 (.seq (.note (.gc [3,51,52,53,54,55,56,72,73,74,75,76,77,78,79,82,83,84,85,86,87,88,89,90]) (.reg [mo (.mv (.t 3)) 19,
 mo (.call (.f 6) [(.t 19)] [18] []) 20,
 mo (.alloc [(.sl []),(.sl [])]) 4,
 ⟨.st 2 (.t 4) (.t 20), none, none⟩]))
 (.seq (.reg [mo (.mv (.t 3)) 21,
 mo (.ld (some 2) (.t 4)) 22,
 mo (.call (.f 7) [(.t 21),(.t 22)] [18] []) 23,
 mo (.alloc [(.int .i64 0),(.sl [])]) 5,
 ⟨.st 2 (.t 5) (.t 23), none, none⟩])
 (.seq (.reg [mo (.mv (.t 3)) 24,
 mo (.fad 0 (.t 5)) 25,
 mo (.ld none (.t 25)) 26,
 mo (.call (.f 8) [(.t 24),(.t 26)] [18] []) 27,
 mo (.mv (.t 3)) 28,
 mo (.call (.f 8) [(.t 28),(.c (.int .i64 32))] [18] []) 29,
 mo (.mv (.t 27)) 6,
 mo (.mv (.t 29)) 7])
 (.seq (.seq (.note (.gc [4,5,6,7,51,52,53,54,55,56,72,73,74,75,76,77,78,79,82,83,84,85,86,87,88,89,90]) (.reg [mo (.fad 0 (.t 4)) 30,
 mo (.ld none (.t 30)) 31,
 mo (.len false (.t 31)) 32,
 mo (.mv (.c (.int .i64 0))) 33]))
 (.block 0
 (.loop mc_law28_ReadersProofs_L1)))
 (.seq (.reg [mo (.call (.f 5) [] [] []) 93,
 mo (.mv (.t 93)) 2])
 .ret))))))))
theorem ok_law28_ReadersProofs : mc_law28_ReadersProofs.ok Tryz.prog Tryz.f4.ntmps (Tryz.f4.body.getD .skip) = true := by kernel_rfl
theorem Wq_law28_ReadersProofs (l_ : List Int) {Q : Bool → Prop} {Q' : V → Heap → Prop} (h : Ok (F_law28_ReadersProofs l_) Q) (hQ : ∀ z, Q z → Q' (.bool z) []) : ACall Tryz.prog 4 [.sl (l_.map (V.int .i64))] [] Q' := by
 refine acall_machN [] [] [.t 2] Tryz.func4 rfl (by kernel_rfl) ok_law28_ReadersProofs (by kernel_rfl) rfl rfl fun M hf => ?_
 clear hf
 unfold F_law28_ReadersProofs at h
 unfold mc_law28_ReadersProofs
 (try replace h := tH h)
 refine tB ?_
 repeat' (first
 |(exact hQ _ h)
 |(exact trivial)
 |(exact False.elim h)
 |(have hq := hQ _ h; replace hq := tH hq; exact hq)
 |((first | refine oblg h ?_ | refine roomG h ?_ | refine fork h ?_ ?_ | refine forkS h ?_ ?_) <;> clear h <;> intro hc h)
 |(refine And.intro (chkD_of rfl) ?_)
 |(obtain ⟨y, hy, h⟩ := h; (first | (with_reducible first | have hw := W_law28_awake hy | have hw := W_readers_Why hy | have hw := W_ref23_Reader hy | have hw := W_readers_May hy | have hw := W_ref23_Upward hy | have hw := W_readers_Refutes hy | have hw := W_readers_Proves hy) | have hw := acall_swe 1000 18 (W_made_Directory hy) | have hw := acall_swe 1000 18 (W_made_Estate hy) | have hw := acall_swe 1000 18 (W_made_Tape_Next hy)); (try replace hw := tH hw); (first | (refine sCall_of hw rfl rfl ?_; rw [M.lok_eq]) | (refine sCallD_of hw rfl rfl ?_; rw [M.lokD_eq])); clear hw; clear hy; refine tB ?_)
 |(refine M.for1 (b := mc_law28_ReadersProofs_L1) 33 [4,5,6,7,32] [5,4] (fun x => []) (fun x => []) [] h ?_ ?_ ?_ <;> first
  |(clear h; intro k a x Qn K hK1 hkN1 ha1 h hf; have hl := fact_int (factsE_find (n := 32) hf.1 rfl); clear hf; have hkd := kD hkN1; have hkB1 := kB hkN1; have hkI1 := kI (k := k) (by omega); unfold F_law28_ReadersProofs_L1 at h; unfold mc_law28_ReadersProofs_L1; (try replace h := tH h); refine tK ha1 hkd hkN1 hkB1 hkI1 ?_)
  |(clear h; intro x K h; replace h := And.left (And.intro h trivial); unfold mc_law28_ReadersProofs_L1; (try replace h := tH h); refine tB ?_)
  |(clear h; (try refine tB ?_); exact tU0; done)
      | fail)
 |(refine And.intro (by first | exact hkI1 | exact hkN1 | exact hkB1) ?_)
 |(simp only [ha1])
 |(refine hK1 _ ?_; (try refine tB ?_); refine ⟨_, h, ?_⟩; exact tU0; done)
 |(refine ⟨_, getE_map (inb_toNat (by assumption)), ?_⟩; (first | rw [M.lok_compU] | rw [M.lokD_compU]); refine tB ?_)
 |(refine And.intro (ltb_of (by assumption)) ?_)
 |(refine And.intro (inb_nat (by assumption)) ?_)
 |(refine And.intro (by omega) ?_)
   | fail)
theorem W_law28_ReadersProofs : ∀ {l_ : List Int} {y : Bool}, F_law28_ReadersProofs l_ = some y → ACall Tryz.prog 4 [.sl (l_.map (V.int .i64))] [] (fun r H => r = .bool y ∧ H = []) :=
 fun hy => Wq_law28_ReadersProofs _ (Q := (· = _)) ⟨_, hy, rfl⟩ fun | _, rfl => ⟨rfl, rfl⟩
end Go.Ab
