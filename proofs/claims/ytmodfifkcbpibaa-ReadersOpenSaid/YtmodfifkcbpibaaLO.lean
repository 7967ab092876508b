/- What the functions of this seat that lie on the laws' road compute (part LO), each for every input. By AI agents. -/
import Derived.Test.YtmodfifkcbpibaaProg
import Derived.KernelRfl
import Derived.Test.YtmodfifkcbpibaaAbFun
import Derived.Test.YtmodfifkcbpibaaLC
set_option linter.all false
set_option linter.all false
set_option maxRecDepth 20000
set_option maxHeartbeats 2000000
namespace Go.Ab
open Go.Proofs
noncomputable def F_law28_ReadersOpen_L1 (y6 : GDirectory × GTape) (y12 : Int × GTape) (k1591 : Int) (k2088 : Int) (a2089 : Int) (x2087 : Bool) : Option Bool :=
 jn (α := Bool) (bif x2087 then some true else (F_ref23_Reader y6.1 k1591).bind fun y2107 => bif y2107 then bif decide (k1591 = a2089) then some true else (F_ref23_In y6.1 k1591 a2089 y12.1).bind fun y2108 => some y2108 else some false) fun j2109 => some j2109
noncomputable def F_law28_ReadersOpen_L2 (y6 : GDirectory × GTape) (y8 : GEstate × GTape) (y11 : Int × GTape) (y12 : Int × GTape) (y14 : GAudience × Int) (y16 : Int × Bool) (k1591 : Int) (a1592 : Int) (x1590 : Unit) : Option (Fl Unit Bool) :=
 jn (α := Bool) (bif y16.2 then (F_ref23_Reader y6.1 k1591).bind fun y1987 => some y1987 else some false) fun j1988 => (F_ref27_Granted y8.1 y11.1 y12.1).bind fun y2051 => (foldL (F_law28_ReadersOpen_L1 y6 y12 k1591) y2051 0 j1988).bind fun x2110 => (F_ref23_Has y14.1.Principals k1591).bind fun y2112 => bif (!(y2112 == x2110)) then some (.ex false) else some (.nx ())
noncomputable def F_law28_ReadersOpen (l_ : List Int) : Option Bool :=
 bif decide (400 < (l_.length : Int)) then F_law28_awake.bind fun y4 => some y4 else (F_made_Directory (GTape.mk l_ 0)).bind fun y6 => (F_made_Estate y6.2 y6.1).bind fun y8 => (F_made_Tape_Next y8.2 y8.1.Places).bind fun y11 => (F_made_Tape_Next y11.2 32).bind fun y12 => (F_readers_Who y6.1 y8.1 y11.1 y12.1).bind fun y14 => (F_ref27_Linked y8.1 y11.1 y12.1).bind fun y16 => grp (((!decide (y14.2 = 0)) || (!(y14.1.Public == y16.2)))) fun b20 => bif b20 then some false else (forL (F_law28_ReadersOpen_L2 y6 y8 y11 y12 y14 y16) y6.1.Kinds 0 ()).bind fun o => o.elim (fun x2113 => F_law28_awake.bind fun y2116 => some y2116) (fun r2114 => some r2114)
@[irreducible] def mg_law28_ReadersOpen_1 : List MOp := [⟨.fad 0 (.t 8), (some 52), (some (51, false))⟩,
 ⟨.ld none (.t 52), (some 53), (some (51, false))⟩,
 ⟨.mv (.t 11), (some 54), (some (51, false))⟩,
 ⟨.beq true (.t 53) (.t 54), (some 55), (some (51, false))⟩,
 mo (.pick (.t 51) (.c (.bool true)) (.t 55)) 56]
@[irreducible] def mg_law28_ReadersOpen_2 : List MOp := [⟨.ld (some 2) (.t 4), (some 65), (some (64, true))⟩,
 ⟨.mv (.t 12), (some 66), (some (64, true))⟩,
 ⟨.call (.f 13) [(.t 65), (.t 66)] [] [], (some 67), (some (64, true))⟩,
 mo (.pick (.t 64) (.t 67) (.c (.bool false))) 68]
@[irreducible] def mg_law28_ReadersOpen_3 : List MOp := [⟨.ld (some 2) (.t 4), (some 80), (some (79, false))⟩,
 ⟨.mv (.t 12), (some 81), (some (79, false))⟩,
 ⟨.call (.f 13) [(.t 80), (.t 81)] [] [], (some 82), (some (79, false))⟩,
 ⟨.mv (.t 82), (some 83), (some (79, false))⟩,
 ⟨.mv (.t 12), (some 84), (some (83, true))⟩,
 ⟨.mv (.t 15), (some 85), (some (83, true))⟩,
 ⟨.bin false .eql (.t 84) (.t 85), (some 86), (some (83, true))⟩,
 ⟨.mv (.t 86), (some 87), (some (83, true))⟩,
 ⟨.ld (some 2) (.t 4), (some 88), (some (87, false))⟩,
 ⟨.mv (.t 12), (some 89), (some (87, false))⟩,
 ⟨.mv (.t 15), (some 90), (some (87, false))⟩,
 ⟨.mv (.t 7), (some 91), (some (87, false))⟩,
 ⟨.call (.f 15) [(.t 88), (.t 89), (.t 90), (.t 91)] [] [], (some 92), (some (87, false))⟩,
 ⟨.pick (.t 87) (.c (.bool true)) (.t 92), (some 93), (some (83, true))⟩,
 ⟨.pick (.t 83) (.t 93) (.c (.bool false)), (some 94), (some (79, false))⟩,
 mo (.pick (.t 79) (.c (.bool true)) (.t 94)) 95]
@[irreducible] def mc_law28_ReadersOpen_L1 : MC :=
 (.seq (.reg [mo (.bin false .lss (.t 74) (.t 73)) 75])
 (.seq (.cond (.t 75)
 .skip
 (.exit 2))
 (.seq (.block 3
 (.seq (.reg [mo (.iad 1 (.t 72) (.t 74)) 76,
 mo (.ld none (.t 76)) 77,
 mo (.mv (.t 77)) 15])
 (.regI [.op (mo (.mv (.t 13)) 78),
 .op (mo (.mv (.t 78)) 79),
 .grp mg_law28_ReadersOpen_3,
 .op (mo (.mv (.t 95)) 13)])))
 (.reg [mo (.bin true .add (.t 74) (.c (.int .i64 1))) 96,
 mo (.mv (.t 96)) 74]))))
@[irreducible] def mc_law28_ReadersOpen_L2 : MC :=
 (.seq (.reg [mo (.bin false .lss (.t 60) (.t 59)) 61])
 (.seq (.cond (.t 61)
 .skip
 (.exit 0))
 (.seq (.block 1
 (.seq (.reg [mo (.mv (.t 60)) 62,
 mo (.mv (.t 62)) 12])
 (.seq (.regI [.op (mo (.mv (.t 11)) 63),
 .op (mo (.mv (.t 63)) 64),
 .grp mg_law28_ReadersOpen_2,
 .op (mo (.mv (.t 68)) 13)])
 (.seq (.seq (.reg [mo (.ld (some 2) (.t 5)) 69,
 mo (.mv (.t 6)) 70,
 mo (.mv (.t 7)) 71,
 mo (.call (.f 14) [(.t 69), (.t 70), (.t 71)] [] []) 72,
 mo (.len false (.t 72)) 73,
 mo (.mv (.c (.int .i64 0))) 74])
 (.block 2
 (.loop mc_law28_ReadersOpen_L1)))
 (.seq (.reg [mo (.fad 1 (.t 8)) 97,
 mo (.ld none (.t 97)) 98,
 mo (.mv (.t 12)) 99,
 mo (.call (.f 16) [(.t 98), (.t 99)] [] []) 100,
 mo (.mv (.t 13)) 101,
 mo (.beq true (.t 100) (.t 101)) 102])
 (.cond (.t 102)
 (.seq (.reg [mo (.mv (.c (.bool false))) 2])
 .ret)
 .skip))))))
 (.reg [mo (.bin true .add (.t 60) (.c (.int .i64 1))) 103,
 mo (.mv (.t 103)) 60]))))
def mc_law28_ReadersOpen : MC :=
 (.seq (.reg [mo (.mv (.c (.bool false))) 2])
 (.seq (.seq (.reg [mo (.mv (.t 0)) 16,
 mo (.len false (.t 16)) 17,
 mo (.bin false .gtr (.t 17) (.c (.int .i64 400))) 18])
 (.cond (.t 18)
 (.seq (.reg [mo (.call (.f 7) [] [] []) 19,
 mo (.mv (.t 19)) 2])
 .ret)
 .skip))
 (.seq (.reg [mo (.mv (.t 0)) 20,
 mo (.build [(.sl []), (.int .i64 0)] [(0, 1, (.t 20))]) 21,
 mo (.box (.t 21)) 22,
 mo (.mv (.t 22)) 3])
 (.seq (.note (.gc [3, 52, 53, 54, 55, 65, 66, 67, 80, 81, 82, 83, 84, 85, 86, 87, 88, 89, 90, 91, 92, 93, 94]) (.reg [mo (.mv (.t 3)) 23,
 mo (.call (.f 8) [(.t 23)] [22] []) 24,
 mo (.alloc [(.sl []), (.sl [])]) 4,
 ⟨.st 2 (.t 4) (.t 24), none, none⟩]))
 (.seq (.reg [mo (.mv (.t 3)) 25,
 mo (.ld (some 2) (.t 4)) 26,
 mo (.call (.f 9) [(.t 25), (.t 26)] [22] []) 27,
 mo (.alloc [(.int .i64 0), (.sl [])]) 5,
 ⟨.st 2 (.t 5) (.t 27), none, none⟩])
 (.seq (.reg [mo (.mv (.t 3)) 28,
 mo (.fad 0 (.t 5)) 29,
 mo (.ld none (.t 29)) 30,
 mo (.call (.f 10) [(.t 28), (.t 30)] [22] []) 31,
 mo (.mv (.t 3)) 32,
 mo (.call (.f 10) [(.t 32), (.c (.int .i64 32))] [22] []) 33,
 mo (.mv (.t 31)) 6,
 mo (.mv (.t 33)) 7])
 (.seq (.note (.gc [4, 5, 6, 7, 52, 53, 54, 55, 65, 66, 67, 80, 81, 82, 83, 84, 85, 86, 87, 88, 89, 90, 91, 92, 93, 94]) (.reg [mo (.ld (some 2) (.t 4)) 35,
 mo (.ld (some 2) (.t 5)) 36,
 mo (.mv (.t 6)) 37,
 mo (.mv (.t 7)) 38,
 mo (.call (.f 11) [(.t 35), (.t 36), (.t 37), (.t 38)] [] []) 39,
 mo (.mv (.t 39)) 34,
 mo (.ext 0 (.t 34)) 40,
 mo (.ext 1 (.t 34)) 41,
 mo (.alloc [(.bool false), (.sl [])]) 8,
 ⟨.st 2 (.t 8) (.t 40), none, none⟩,
 mo (.mv (.t 41)) 9]))
 (.seq (.note (.gc [4, 5, 6, 7, 8, 9, 52, 53, 54, 55, 65, 66, 67, 80, 81, 82, 83, 84, 85, 86, 87, 88, 89, 90, 91, 92, 93, 94]) (.reg [mo (.ld (some 2) (.t 5)) 43,
 mo (.mv (.t 6)) 44,
 mo (.mv (.t 7)) 45,
 mo (.call (.f 12) [(.t 43), (.t 44), (.t 45)] [] []) 46,
 mo (.mv (.t 46)) 42,
 mo (.ext 0 (.t 42)) 47,
 mo (.ext 1 (.t 42)) 48,
 mo (.mv (.t 47)) 10,
 mo (.mv (.t 48)) 11]))
 (.seq (.seq (.note (.gc [4, 5, 6, 7, 8, 9, 11, 52, 53, 54, 55, 65, 66, 67, 80, 81, 82, 83, 84, 85, 86, 87, 88, 89, 90, 91, 92, 93, 94]) (.regI [.op (mo (.mv (.t 9)) 49),
 .op (mo (.bin false .neq (.t 49) (.c (.int .i64 0))) 50),
 .op (mo (.mv (.t 50)) 51),
 .grp mg_law28_ReadersOpen_1]))
 (.cond (.t 56)
 (.seq (.reg [mo (.mv (.c (.bool false))) 2])
 .ret)
 .skip))
 (.seq (.seq (.reg [mo (.fad 0 (.t 4)) 57,
 mo (.ld none (.t 57)) 58,
 mo (.len false (.t 58)) 59,
 mo (.mv (.c (.int .i64 0))) 60])
 (.block 0
 (.loop mc_law28_ReadersOpen_L2)))
 (.seq (.reg [mo (.call (.f 7) [] [] []) 104,
 mo (.mv (.t 104)) 2])
 .ret)))))))))))
theorem ok_law28_ReadersOpen : mc_law28_ReadersOpen.ok Try.prog Try.f3.ntmps (Try.f3.body.getD .skip) = true := by kernel_rfl
theorem Wq_law28_ReadersOpen (l_ : List Int) {Q : Bool → Prop} {Q' : V → Heap → Prop} (h : Ok (F_law28_ReadersOpen l_) Q) (hQ : ∀ z, Q z → Q' (.bool z) []) : ACall Try.prog 3 [.sl (l_.map (V.int .i64))] [] Q' := by
 refine acall_machN [] [] [.t 2] Try.func3 rfl (by kernel_rfl) ok_law28_ReadersOpen (by kernel_rfl) rfl rfl fun M hf => ?_
 clear hf
 unfold F_law28_ReadersOpen at h
 unfold mc_law28_ReadersOpen
 (try replace h := tH h)
 refine tB ?_
 repeat' (first
 |(exact hQ _ h)
 |(exact trivial)
 |(exact False.elim h)
 |(have hq := hQ _ h; replace hq := tH hq; exact hq)
 |((first | refine oblg h ?_ | refine roomG h ?_ | refine fork h ?_ ?_ | refine forkS h ?_ ?_) <;> clear h <;> intro hc h)
 |(refine And.intro (chkD_of rfl) ?_)
 |(obtain ⟨y, hy, h⟩ := h; (first | (with_reducible first | have hw := W_law28_awake hy | have hw := W_readers_Who hy | have hw := W_ref27_Linked hy | have hw := W_ref23_Reader hy | have hw := W_ref27_Granted hy | have hw := W_ref23_In hy | have hw := W_ref23_Has hy) | have hw := acall_swe 1000 22 (W_made_Directory hy) | have hw := acall_swe 1000 22 (W_made_Estate hy) | have hw := acall_swe 1000 22 (W_made_Tape_Next hy)); (try replace hw := tH hw); (first | (refine sCall_of hw rfl rfl ?_; rw [M.lok_eq]) | (refine sCallD_of hw rfl rfl ?_; rw [M.lokD_eq])); clear hw; clear hy; refine tB ?_)
 |(refine M.gj1 (ms := mg_law28_ReadersOpen_3) [4, 5, 6, 7, 8, 11, 12, 13, 59, 60, 72, 73, 74] [8, 5, 4] (fun y => [(95, .bool y)]) (fun y => []) h ?_ ?_ <;> first
  |(clear h; intro Qn K hK1 h; unfold mg_law28_ReadersOpen_3; (try replace h := tH h); refine tB ?_)
  |(clear h; intro y h; (try replace h := tH h); refine tB ?_)
      | fail)
 |(refine M.fold1 (b := mc_law28_ReadersOpen_L1) 74 [4, 5, 6, 7, 8, 11, 12, 59, 60, 72, 73] [8, 5, 4] (fun x => [(13, .bool x)]) (fun x => []) [] h ?_ ?_ ?_ <;> first
  |(clear h; intro k a x Qn K hK2 hkN2 ha2 h hf; have hl := fact_int (factsE_find (n := 73) hf.1 rfl); clear hf; have hkd := kD hkN2; have hkB2 := kB hkN2; have hkI2 := kI (k := k) (by omega); unfold F_law28_ReadersOpen_L1 at h; unfold mc_law28_ReadersOpen_L1; (try replace h := tH h); refine tK ha2 hkd hkN2 hkB2 hkI2 ?_)
  |(clear h; intro x K h; replace h := And.left (And.intro h trivial); unfold mc_law28_ReadersOpen_L1; (try replace h := tH h); refine tB ?_)
  |(clear h; (try refine tB ?_); exact tU0; done)
      | fail)
 |(refine M.gj1 (ms := mg_law28_ReadersOpen_2) [4, 5, 6, 7, 8, 11, 12, 59, 60] [8, 5, 4] (fun y => [(68, .bool y)]) (fun y => []) h ?_ ?_ <;> first
  |(clear h; intro Qn K hK3 h; unfold mg_law28_ReadersOpen_2; (try replace h := tH h); refine tB ?_)
  |(clear h; intro y h; (try replace h := tH h); refine tB ?_)
      | fail)
 |(refine M.for1 (b := mc_law28_ReadersOpen_L2) 60 [4, 5, 6, 7, 8, 11, 59] [8, 5, 4] (fun x => []) (fun x => []) [] h ?_ ?_ ?_ <;> first
  |(clear h; intro k a x Qn K hK4 hkN4 ha4 h hf; have hl := fact_int (factsE_find (n := 59) hf.1 rfl); clear hf; have hkd := kD hkN4; have hkB4 := kB hkN4; have hkI4 := kI (k := k) (by omega); unfold F_law28_ReadersOpen_L2 at h; unfold mc_law28_ReadersOpen_L2; (try replace h := tH h); refine tK ha4 hkd hkN4 hkB4 hkI4 ?_)
  |(clear h; intro x K h; replace h := And.left (And.intro h trivial); unfold mc_law28_ReadersOpen_L2; (try replace h := tH h); refine tB ?_)
  |(clear h; (try refine tB ?_); exact tU0; done)
      | fail)
 |(refine M.gv1 (ms := mg_law28_ReadersOpen_1) 56 [52, 53, 54, 55] h ?_ ?_ <;> first
  |(clear h; intro K hK5; unfold mg_law28_ReadersOpen_1; refine tB ?_)
  |(clear h; intro b h; (try replace h := tH h); refine tB ?_)
      | fail)
 |(refine And.intro (by first | exact hkI2 | exact hkN2 | exact hkB2 | exact hkI4 | exact hkN4 | exact hkB4) ?_)
 |(first | simp only [ha2] | simp only [ha4])
 |((first | refine hK1 _ ?_ | refine hK2 _ ?_ | refine hK3 _ ?_ | refine hK4 _ ?_); (try refine tB ?_); refine ⟨_, h, ?_⟩; exact tU0; done)
 |(refine hK5 _ ?_; exact tU; done)
 |(refine bfork (fun hc => ?_) (fun hc => ?_))
 |(refine ⟨_, getE_map (inb_toNat (by assumption)), ?_⟩; (first | rw [M.lok_compU] | rw [M.lokD_compU]); refine tB ?_)
 |(refine And.intro (ltb_of (by assumption)) ?_)
 |(refine And.intro (inb_nat (by assumption)) ?_)
 |(refine And.intro (by omega) ?_)
   | fail)
theorem W_law28_ReadersOpen : ∀ {l_ : List Int} {y : Bool}, F_law28_ReadersOpen l_ = some y → ACall Try.prog 3 [.sl (l_.map (V.int .i64))] [] (fun r H => r = .bool y ∧ H = []) :=
 fun hy => Wq_law28_ReadersOpen _ (Q := (· = _)) ⟨_, hy, rfl⟩ fun | _, rfl => ⟨rfl, rfl⟩
end Go.Ab
