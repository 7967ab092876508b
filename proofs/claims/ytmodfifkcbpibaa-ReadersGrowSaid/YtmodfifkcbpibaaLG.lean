/- What the functions of this seat that lie on the laws' road compute (part LG), each for every input. By AI agents. -/
import Derived.Test.YtmodfifkcbpibaaProg
import Derived.KernelRfl
import Derived.Test.YtmodfifkcbpibaaAbFun
import Derived.Test.YtmodfifkcbpibaaLC
set_option linter.all false
set_option linter.all false
set_option maxRecDepth 20000
set_option maxHeartbeats 2000000
namespace Go.Ab
open Go.Proofs
noncomputable def F_law28_ReadersGrow_L1 (y6 : GDirectory × GTape) (y8 : GEstate × GTape) (y11 : Int × GTape) (y12 : Int × GTape) (x1574 : Int × GEstate) (k1991 : Int) (a1992 : Int) (x1990 : Unit) : Option (Fl Unit Bool) :=
 (F_readers_May y6.1 y8.1 k1991 y11.1 x1574.1).bind fun y2037 => (F_readers_May y6.1 x1574.2 k1991 y11.1 x1574.1).bind fun y2038 => (F_ref23_Reader y6.1 k1991).bind fun y2043 => jn (α := Bool) (bif y2043 then bif decide (k1991 = y12.1) then some true else (F_ref23_In y6.1 k1991 y12.1 x1574.1).bind fun y2045 => some y2045 else some false) fun j2046 => grp ((y2037 || j2046)) fun b2048 => bif (!(y2038 == b2048)) then some (.ex false) else some (.nx ())
noncomputable def F_law28_ReadersGrow_L2 (y6 : GDirectory × GTape) (y8 : GEstate × GTape) (y11 : Int × GTape) (y12 : Int × GTape) (j13 : Int) (x1574 : Int × GEstate) : Option (Fl (Int × GEstate) (Sum Unit Bool)) :=
 chk (in64 (j13 + 6)) (bif decide (x1574.1 < (j13 + 6)) then (forL (F_law28_ReadersGrow_L1 y6 y8 y11 y12 x1574) y6.1.Kinds 0 ()).bind fun o => o.elim (fun x2049 => chk (in64 (x1574.1 + 1)) (some (.nx ((x1574.1 + 1), x1574.2)))) (fun r2050 => some (.ex (.inr r2050))) else some (.ex (.inl ())))
noncomputable def F_law28_ReadersGrow (l_ : List Int) : Option Bool :=
 bif decide (400 < (l_.length : Int)) then F_law28_awake.bind fun y4 => some y4 else (F_made_Directory (GTape.mk l_ 0)).bind fun y6 => (F_made_Estate y6.2 y6.1).bind fun y8 => (F_made_Tape_Next y8.2 y8.1.Places).bind fun y11 => (F_made_Tape_Next y11.2 (y6.1.Kinds.length : Int)).bind fun y12 => jn (α := Int) (bif decide (0 < (y8.1.Events.length : Int)) then chk (in64 ((y8.1.Events.length : Int) - 1)) (chk (inb ((y8.1.Events.length : Int) - 1) y8.1.Events.length) (some ((y8.1.Events.getD (((y8.1.Events.length : Int) - 1)).toNat default).Time))) else some 0) fun j13 => chk (room y8.1.Events.length 56) (chk (room (y8.1.Events.length + [(GAccess.mk j13 1 y11.1 y12.1 0 0 0)].length) 56) ((loop (F_law28_ReadersGrow_L2 y6 y8 y11 y12 j13) (j13, (GEstate.mk y8.1.Places (y8.1.Events ++ [(GAccess.mk j13 1 y11.1 y12.1 0 0 0)])))).bind fun r2051 => Sum.elim (fun u2052 => F_law28_awake.bind fun y2055 => some y2055) (fun u2053 => some u2053) r2051))
@[irreducible] def mg_law28_ReadersGrow_1 : List MOp := [⟨.mv (.t 11), (some 89), (some (88, true))⟩,
 ⟨.mv (.t 7), (some 90), (some (88, true))⟩,
 ⟨.bin false .eql (.t 89) (.t 90), (some 91), (some (88, true))⟩,
 ⟨.mv (.t 91), (some 92), (some (88, true))⟩,
 ⟨.ld (some 2) (.t 4), (some 93), (some (92, false))⟩,
 ⟨.mv (.t 11), (some 94), (some (92, false))⟩,
 ⟨.mv (.t 7), (some 95), (some (92, false))⟩,
 ⟨.mv (.t 10), (some 96), (some (92, false))⟩,
 ⟨.call (.f 15) [(.t 93), (.t 94), (.t 95), (.t 96)] [] [], (some 97), (some (92, false))⟩,
 ⟨.pick (.t 92) (.c (.bool true)) (.t 97), (some 98), (some (88, true))⟩,
 mo (.pick (.t 88) (.t 98) (.c (.bool false))) 99]
@[irreducible] def mg_law28_ReadersGrow_2 : List MOp := [⟨.mv (.t 14), (some 103), (some (102, false))⟩,
 mo (.pick (.t 102) (.c (.bool true)) (.t 103)) 104]
@[irreducible] def mc_law28_ReadersGrow_L1 : MC :=
 (.seq (.reg [mo (.bin false .lss (.t 70) (.t 69)) 71])
 (.seq (.cond (.t 71)
 .skip
 (.exit 2))
 (.seq (.block 3
 (.seq (.reg [mo (.mv (.t 70)) 72,
 mo (.mv (.t 72)) 11])
 (.seq (.note (.fzc 9) (.regD [mo (.ld (some 2) (.t 4)) 73,
 mo (.ld (some 2) (.t 5)) 74,
 mo (.mv (.t 11)) 75,
 mo (.mv (.t 6)) 76,
 mo (.mv (.t 10)) 77,
 mo (.call (.f 17) [(.t 73), (.t 74), (.t 75), (.t 76), (.t 77)] [] []) 78,
 mo (.ld (some 2) (.t 4)) 79,
 mo (.ld (some 2) (.t 9)) 80,
 mo (.mv (.t 11)) 81,
 mo (.mv (.t 6)) 82,
 mo (.mv (.t 10)) 83,
 mo (.call (.f 17) [(.t 79), (.t 80), (.t 81), (.t 82), (.t 83)] [] []) 84,
 mo (.mv (.t 78)) 12,
 mo (.mv (.t 84)) 13]
 [[], [], [], [], [], [0, 1, 2, 3, 4], [], [], [], [], [], [6, 7, 8, 9, 10, 5], [5, 11, 0, 1, 2, 3, 4, 5], [11, 12, 0, 1, 2, 3, 4, 5, 6, 7, 8, 9, 10, 11, 12]]
 [[], [], [], [], [], [0, 1, 2, 3, 4], [], [], [], [], [], [0, 1, 2, 3, 4, 5, 6, 7, 8, 9, 10], [0, 1, 2, 3, 4, 5, 6, 7, 8, 9, 10, 11], [0, 1, 2, 3, 4, 5, 6, 7, 8, 9, 10, 11, 12]]))
 (.seq (.note (.gc [4, 5, 6, 7, 8, 9, 10, 11, 12, 13, 69, 70, 89, 90, 91, 92, 93, 94, 95, 96, 97, 98, 103]) (.regI [.op (mo (.ld (some 2) (.t 4)) 85),
 .op (mo (.mv (.t 11)) 86),
 .op (mo (.call (.f 13) [(.t 85), (.t 86)] [] []) 87),
 .op (mo (.mv (.t 87)) 88),
 .grp mg_law28_ReadersGrow_1,
 .op (mo (.mv (.t 99)) 14)]))
 (.seq (.regI [.op (mo (.mv (.t 13)) 100),
 .op (mo (.mv (.t 12)) 101),
 .op (mo (.mv (.t 101)) 102),
 .grp mg_law28_ReadersGrow_2,
 .op (mo (.beq true (.t 100) (.t 104)) 105)])
 (.cond (.t 105)
 (.seq (.reg [mo (.mv (.c (.bool false))) 2])
 .ret)
 .skip))))))
 (.reg [mo (.bin true .add (.t 70) (.c (.int .i64 1))) 106,
 mo (.mv (.t 106)) 70]))))
@[irreducible] def mc_law28_ReadersGrow_L2 : MC :=
 (.seq (.seq (.reg [mo (.mv (.t 10)) 61,
 mo (.mv (.t 8)) 62,
 mo (.bin true .add (.t 62) (.c (.int .i64 6))) 63,
 mo (.bin false .lss (.t 61) (.t 63)) 64])
 (.cond (.t 64)
 .skip
 (.exit 0)))
 (.seq (.block 1
 (.seq (.reg [mo (.fad 0 (.t 4)) 67,
 mo (.ld none (.t 67)) 68,
 mo (.len false (.t 68)) 69,
 mo (.mv (.c (.int .i64 0))) 70])
 (.block 2
 (.loop mc_law28_ReadersGrow_L1))))
 (.reg [mo (.mv (.t 10)) 65,
 mo (.bin true .add (.t 65) (.c (.int .i64 1))) 66,
 mo (.mv (.t 66)) 10])))
@[irreducible] def mc_law28_ReadersGrow_J1 : MC :=
 (.seq (.reg [mo (.ld (some 2) (.t 5)) 49,
 mo (.alloc [(.int .i64 0), (.sl [])]) 9,
 ⟨.st 2 (.t 9) (.t 49), none, none⟩])
 (.seq (.reg [mo (.fad 1 (.t 5)) 50,
 mo (.ld none (.t 50)) 51,
 mo (.app 7 56 (.c .nils) (.t 51)) 52,
 mo (.mv (.t 8)) 53,
 mo (.mv (.t 6)) 54,
 mo (.mv (.t 7)) 55,
 mo (.build [(.int .i64 0), (.int .i64 0), (.int .i64 0), (.int .i64 0), (.int .i64 0), (.int .i64 0), (.int .i64 0)] [(0, 1, (.t 53)), (1, 1, (.c (.int .i64 1))), (2, 1, (.t 54)), (3, 1, (.t 55))]) 56,
 mo (.bslice 7 [(.t 56)]) 57,
 mo (.app 7 56 (.t 52) (.t 57)) 58,
 mo (.fad 1 (.t 9)) 59,
 ⟨.st 1 (.t 59) (.t 58), none, none⟩])
 (.seq (.seq (.reg [mo (.mv (.t 8)) 60,
 mo (.mv (.t 60)) 10])
 (.block 0
 (.loop mc_law28_ReadersGrow_L2)))
 (.seq (.reg [mo (.call (.f 7) [] [] []) 107,
 mo (.mv (.t 107)) 2])
 .ret))))
def mc_law28_ReadersGrow : MC :=
 (.seq (.reg [mo (.mv (.c (.bool false))) 2])
 (.seq (.seq (.reg [mo (.mv (.t 0)) 15,
 mo (.len false (.t 15)) 16,
 mo (.bin false .gtr (.t 16) (.c (.int .i64 400))) 17])
 (.cond (.t 17)
 (.seq (.reg [mo (.call (.f 7) [] [] []) 18,
 mo (.mv (.t 18)) 2])
 .ret)
 .skip))
 (.seq (.reg [mo (.mv (.t 0)) 19,
 mo (.build [(.sl []), (.int .i64 0)] [(0, 1, (.t 19))]) 20,
 mo (.box (.t 20)) 21,
 mo (.mv (.t 21)) 3])
 (.seq (.note (.gc [3, 89, 90, 91, 92, 93, 94, 95, 96, 97, 98, 103]) (.reg [mo (.mv (.t 3)) 22,
 mo (.call (.f 8) [(.t 22)] [21] []) 23,
 mo (.alloc [(.sl []), (.sl [])]) 4,
 ⟨.st 2 (.t 4) (.t 23), none, none⟩]))
 (.seq (.reg [mo (.mv (.t 3)) 24,
 mo (.ld (some 2) (.t 4)) 25,
 mo (.call (.f 9) [(.t 24), (.t 25)] [21] []) 26,
 mo (.alloc [(.int .i64 0), (.sl [])]) 5,
 ⟨.st 2 (.t 5) (.t 26), none, none⟩])
 (.seq (.regD [mo (.mv (.t 3)) 27,
 mo (.fad 0 (.t 5)) 28,
 mo (.ld none (.t 28)) 29,
 mo (.call (.f 10) [(.t 27), (.t 29)] [21] []) 30,
 mo (.mv (.t 3)) 31,
 mo (.fad 0 (.t 4)) 32,
 mo (.ld none (.t 32)) 33,
 mo (.len false (.t 33)) 34,
 mo (.call (.f 10) [(.t 31), (.t 34)] [21] []) 35,
 mo (.mv (.t 30)) 6,
 mo (.mv (.t 35)) 7]
 [[], [], [1], [0, 2], [], [], [5], [6], [4, 7, 3], [3, 8, 0, 1, 2, 3], [8, 9, 0, 1, 2, 3, 4, 5, 6, 7, 8, 9]]
 [[], [], [1], [0, 1, 2], [], [], [5], [5, 6], [0, 1, 2, 3, 4, 5, 6, 7], [0, 1, 2, 3, 4, 5, 6, 7, 8], [0, 1, 2, 3, 4, 5, 6, 7, 8, 9]])
 (.seq (.reg [mo (.mv (.c (.int .i64 0))) 8])
 (.cut (.seq (.note (.gc [4, 5, 6, 7, 8, 89, 90, 91, 92, 93, 94, 95, 96, 97, 98, 103]) (.reg [mo (.fad 1 (.t 5)) 36,
 mo (.ld none (.t 36)) 37,
 mo (.len false (.t 37)) 38,
 mo (.bin false .gtr (.t 38) (.c (.int .i64 0))) 39]))
 (.cond (.t 39)
 (.reg [mo (.fad 1 (.t 5)) 40,
 mo (.ld none (.t 40)) 41,
 mo (.fad 1 (.t 5)) 42,
 mo (.ld none (.t 42)) 43,
 mo (.len false (.t 43)) 44,
 mo (.bin true .sub (.t 44) (.c (.int .i64 1))) 45,
 mo (.iad 7 (.t 41) (.t 45)) 46,
 mo (.fad 0 (.t 46)) 47,
 mo (.ld none (.t 47)) 48,
 mo (.mv (.t 48)) 8])
 .skip))
 mc_law28_ReadersGrow_J1))))))))
theorem ok_law28_ReadersGrow : mc_law28_ReadersGrow.ok Try.prog Try.f4.ntmps (Try.f4.body.getD .skip) = true := by kernel_rfl
theorem Wq_law28_ReadersGrow (l_ : List Int) {Q : Bool → Prop} {Q' : V → Heap → Prop} (h : Ok (F_law28_ReadersGrow l_) Q) (hQ : ∀ z, Q z → Q' (.bool z) []) : ACall Try.prog 4 [.sl (l_.map (V.int .i64))] [] Q' := by
 refine acall_machN [] [] [.t 2] Try.func4 rfl (by kernel_rfl) ok_law28_ReadersGrow (by kernel_rfl) rfl rfl fun M hf => ?_
 clear hf
 unfold F_law28_ReadersGrow at h
 unfold mc_law28_ReadersGrow
 (try replace h := tH h)
 refine tB ?_
 repeat' (first
 |(exact hQ _ h)
 |(exact trivial)
 |(exact False.elim h)
 |(have hq := hQ _ h; replace hq := tH hq; exact hq)
 |((first | refine oblg h ?_ | refine roomG h ?_ | refine fork h ?_ ?_ | refine forkS h ?_ ?_) <;> clear h <;> intro hc h)
 |(refine And.intro (chkD_of rfl) ?_)
 |(obtain ⟨y, hy, h⟩ := h; (first | (with_reducible first | have hw := W_law28_awake hy | have hw := W_readers_May hy | have hw := W_ref23_Reader hy | have hw := W_ref23_In hy) | have hw := acall_swe 1000 21 (W_made_Directory hy) | have hw := acall_swe 1000 21 (W_made_Estate hy) | have hw := acall_swe 1000 21 (W_made_Tape_Next hy)); (try replace hw := tH hw); (first | (refine sCall_of hw rfl rfl ?_; rw [M.lok_eq]) | (refine sCallD_of hw rfl rfl ?_; rw [M.lokD_eq])); clear hw; clear hy; refine tB ?_)
 |(refine M.gv1 (ms := mg_law28_ReadersGrow_2) 104 [103] h ?_ ?_ <;> first
  |(clear h; intro K hK1; unfold mg_law28_ReadersGrow_2; refine tB ?_)
  |(clear h; intro b h; (try replace h := tH h); refine tB ?_)
      | fail)
 |(refine M.gj1 (ms := mg_law28_ReadersGrow_1) [4, 5, 6, 7, 8, 9, 10, 12, 13, 69, 70] [9, 5, 4] (fun y => [(99, .bool y)]) (fun y => []) h ?_ ?_ <;> first
  |(clear h; intro Qn K hK2 h; unfold mg_law28_ReadersGrow_1; (try replace h := tH h); refine tB ?_)
  |(clear h; intro y h; (try replace h := tH h); refine tB ?_)
      | fail)
 |(refine M.for1 (b := mc_law28_ReadersGrow_L1) 70 [4, 5, 6, 7, 8, 9, 10, 69] [9, 5, 4] (fun x => []) (fun x => []) [] h ?_ ?_ ?_ <;> first
  |(clear h; intro k a x Qn K hK3 hkN3 ha3 h hf; have hl := fact_int (factsE_find (n := 69) hf.1 rfl); clear hf; have hkd := kD hkN3; have hkB3 := kB hkN3; have hkI3 := kI (k := k) (by omega); unfold F_law28_ReadersGrow_L1 at h; unfold mc_law28_ReadersGrow_L1; (try replace h := tH h); refine tK ha3 hkd hkN3 hkB3 hkI3 ?_)
  |(clear h; intro x K h; replace h := And.left (And.intro h trivial); unfold mc_law28_ReadersGrow_L1; (try replace h := tH h); refine tB ?_)
  |(clear h; (try refine tB ?_); exact tU0; done)
      | fail)
 |(refine M.wh1 (b := mc_law28_ReadersGrow_L2) [4, 5, 6, 7, 8, 9] [5, 4] (fun x => [(10, .int .i64 x.1)]) (fun x => [.o 9 (.cells [.int .i64 x.2.Places, .sl (x.2.Events.map GAccess.v)])]) [.fzc 9] h ?_ ?_ <;> first
  |(clear h; intro x Qn K hK4 h; unfold F_law28_ReadersGrow_L2 at h; unfold mc_law28_ReadersGrow_L2; (try replace h := tH h); refine tB ?_)
  |(clear h; (try refine tB ?_); exact tU0; done)
      | fail)
 |(refine M.jn1 (b := mc_law28_ReadersGrow_J1) [4, 5, 6, 7] [5, 4] (fun y => [(8, .int .i64 y)]) (fun y => []) [] h ?_ ?_ <;> first
  |(clear h; intro Qn K hK5 h; (try replace h := tH h); refine tB ?_)
  |(clear h; intro y h; unfold mc_law28_ReadersGrow_J1; (try replace h := tH h); refine tB ?_)
      | fail)
 |(refine And.intro (by first | exact hkI3 | exact hkN3 | exact hkB3) ?_)
 |(simp only [ha3])
 |(refine hK1 _ ?_; exact tU; done)
 |((first | refine hK2 _ ?_ | refine hK3 _ ?_ | refine hK4 _ ?_ | refine hK5 _ ?_); (try refine tB ?_); refine ⟨_, h, ?_⟩; exact tU0; done)
 |(refine bfork (fun hc => ?_) (fun hc => ?_))
 |(refine ⟨_, getE_map (inb_toNat (by assumption)), ?_⟩; (first | rw [M.lok_compU] | rw [M.lokD_compU]); refine tB ?_)
 |(refine And.intro (ltb_of (by assumption)) ?_)
 |(refine And.intro (inb_nat (by assumption)) ?_)
 |(refine And.intro (by omega) ?_)
   | fail)
theorem W_law28_ReadersGrow : ∀ {l_ : List Int} {y : Bool}, F_law28_ReadersGrow l_ = some y → ACall Try.prog 4 [.sl (l_.map (V.int .i64))] [] (fun r H => r = .bool y ∧ H = []) :=
 fun hy => Wq_law28_ReadersGrow _ (Q := (· = _)) ⟨_, hy, rfl⟩ fun | _, rfl => ⟨rfl, rfl⟩
end Go.Ab
