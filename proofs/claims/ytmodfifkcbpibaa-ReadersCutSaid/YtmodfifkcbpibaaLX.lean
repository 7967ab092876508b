/- What the functions of this seat that lie on the laws' road compute (part LX), each for every input. By AI agents. -/
import Derived.Test.YtmodfifkcbpibaaProg
import Derived.KernelRfl
import Derived.Test.YtmodfifkcbpibaaAbFun
import Derived.Test.YtmodfifkcbpibaaLC
set_option linter.all false
set_option linter.all false
set_option maxRecDepth 20000
set_option maxHeartbeats 2000000
namespace Go.Ab
open Go.Proofs
noncomputable def F_law28_ReadersCut_L1 (y10 : Int × GTape) (k26 : Int) (a27 : GMember) (x25 : (List Int) × (List GMember)) : Option ((List Int) × (List GMember)) :=
 bif decide (a27.Time ≤ y10.1) then chk (room (x25.2.length + [a27].length) 32) (some (x25.1, (x25.2 ++ [a27]))) else some (x25.1, x25.2)
noncomputable def F_law28_ReadersCut_L2 (y10 : Int × GTape) (k44 : Int) (a45 : GAccess) (x43 : Int × (List GAccess)) : Option (Int × (List GAccess)) :=
 bif decide (a45.Time ≤ y10.1) then chk (room (x43.2.length + [a45].length) 56) (some (x43.1, (x43.2 ++ [a45]))) else some (x43.1, x43.2)
noncomputable def F_law28_ReadersCut_L3 (y6 : GDirectory × GTape) (y8 : GEstate × GTape) (y10 : Int × GTape) (x151 : Int × GEstate × GDirectory) : Option (Fl (Int × GEstate × GDirectory) (Sum Unit Bool)) :=
 bif decide (x151.1 < y8.1.Places) then (F_readers_Who y6.1 y8.1 x151.1 y10.1).bind fun y177 => (F_readers_Who x151.2.2 x151.2.1 x151.1 y10.1).bind fun y179 => grp (((!decide (y177.2 = 0)) || (!decide (y179.2 = 0)))) fun b182 => bif b182 then some (.ex (.inr false)) else (F_ref28_Same y177.1 y179.1).bind fun y183 => bif (!y183) then some (.ex (.inr false)) else chk (in64 (x151.1 + 1)) (some (.nx ((x151.1 + 1), x151.2.1, x151.2.2))) else some (.ex (.inl ()))
noncomputable def F_law28_ReadersCut (l_ : List Int) : Option Bool :=
 bif decide (400 < (l_.length : Int)) then F_law28_awake.bind fun y4 => some y4 else (F_made_Directory (GTape.mk l_ 0)).bind fun y6 => (F_made_Estate y6.2 y6.1).bind fun y8 => (F_made_Tape_Next y8.2 32).bind fun y10 => (foldL (F_law28_ReadersCut_L1 y10) y6.1.Events 0 (y6.1.Kinds, [])).bind fun x28 => (foldL (F_law28_ReadersCut_L2 y10) y8.1.Events 0 (y8.1.Places, [])).bind fun x46 => (loop (F_law28_ReadersCut_L3 y6 y8 y10) (0, (GEstate.mk x46.1 x46.2), (GDirectory.mk x28.1 x28.2))).bind fun r184 => Sum.elim (fun u185 => F_law28_awake.bind fun y188 => some y188) (fun u186 => some u186) r184
@[irreducible] def mc_law28_ReadersCut_L1 : MC :=
 (.seq (.reg [mo (.bin false .lss (.t 38) (.t 37)) 39])
 (.seq (.cond (.t 39)
 .skip
 (.exit 0))
 (.seq (.block 1
 (.seq (.reg [mo (.iad 4 (.t 36) (.t 38)) 40,
 mo (.ld (some 4) (.t 40)) 41,
 mo (.alloc [(.int .i64 0), (.int .i64 0), (.int .i64 0), (.int .i64 0)]) 9,
 ⟨.st 4 (.t 9) (.t 41), none, none⟩])
 (.seq (.reg [mo (.fad 0 (.t 9)) 42,
 mo (.ld none (.t 42)) 43,
 mo (.mv (.t 6)) 44,
 mo (.bin false .leq (.t 43) (.t 44)) 45])
 (.cond (.t 45)
 (.reg [mo (.fad 1 (.t 7)) 46,
 mo (.ld none (.t 46)) 47,
 mo (.ld (some 4) (.t 9)) 48,
 mo (.bslice 4 [(.t 48)]) 49,
 mo (.app 4 32 (.t 47) (.t 49)) 50,
 mo (.fad 1 (.t 7)) 51,
 ⟨.st 1 (.t 51) (.t 50), none, none⟩])
 .skip))))
 (.reg [mo (.bin true .add (.t 38) (.c (.int .i64 1))) 52,
 mo (.mv (.t 52)) 38]))))
@[irreducible] def mc_law28_ReadersCut_L2 : MC :=
 (.seq (.reg [mo (.bin false .lss (.t 59) (.t 58)) 60])
 (.seq (.cond (.t 60)
 .skip
 (.exit 2))
 (.seq (.block 3
 (.seq (.reg [mo (.iad 7 (.t 57) (.t 59)) 61,
 mo (.ld (some 7) (.t 61)) 62,
 mo (.alloc [(.int .i64 0), (.int .i64 0), (.int .i64 0), (.int .i64 0), (.int .i64 0), (.int .i64 0), (.int .i64 0)]) 12,
 ⟨.st 7 (.t 12) (.t 62), none, none⟩])
 (.seq (.reg [mo (.fad 0 (.t 12)) 63,
 mo (.ld none (.t 63)) 64,
 mo (.mv (.t 6)) 65,
 mo (.bin false .leq (.t 64) (.t 65)) 66])
 (.cond (.t 66)
 (.reg [mo (.fad 1 (.t 10)) 67,
 mo (.ld none (.t 67)) 68,
 mo (.ld (some 7) (.t 12)) 69,
 mo (.bslice 7 [(.t 69)]) 70,
 mo (.app 7 56 (.t 68) (.t 70)) 71,
 mo (.fad 1 (.t 10)) 72,
 ⟨.st 1 (.t 72) (.t 71), none, none⟩])
 .skip))))
 (.reg [mo (.bin true .add (.t 59) (.c (.int .i64 1))) 73,
 mo (.mv (.t 73)) 59]))))
@[irreducible] def mg_law28_ReadersCut_1 : List MOp := [⟨.mv (.t 17), (some 99), (some (98, false))⟩,
 ⟨.bin false .neq (.t 99) (.c (.int .i64 0)), (some 100), (some (98, false))⟩,
 mo (.pick (.t 98) (.c (.bool true)) (.t 100)) 101]
@[irreducible] def mc_law28_ReadersCut_L3 : MC :=
 (.seq (.seq (.reg [mo (.mv (.t 13)) 74,
 mo (.fad 0 (.t 5)) 75,
 mo (.ld none (.t 75)) 76,
 mo (.bin false .lss (.t 74) (.t 76)) 77])
 (.cond (.t 77)
 .skip
 (.exit 4)))
 (.seq (.block 5
 (.seq (.reg [mo (.ld (some 2) (.t 4)) 81,
 mo (.ld (some 2) (.t 5)) 82,
 mo (.mv (.t 13)) 83,
 mo (.mv (.t 6)) 84,
 mo (.call (.f 11) [(.t 81), (.t 82), (.t 83), (.t 84)] [] []) 85,
 mo (.mv (.t 85)) 80,
 mo (.ext 0 (.t 80)) 86,
 mo (.ext 1 (.t 80)) 87,
 mo (.alloc [(.bool false), (.sl [])]) 14,
 ⟨.st 2 (.t 14) (.t 86), none, none⟩,
 mo (.mv (.t 87)) 15])
 (.seq (.note (.gc [4, 5, 6, 7, 10, 13, 14, 15, 99, 100, 103, 104, 105, 106]) (.regI [.op (mo (.ld (some 2) (.t 7)) 89),
 .op (mo (.ld (some 2) (.t 10)) 90),
 .op (mo (.mv (.t 13)) 91),
 .op (mo (.mv (.t 6)) 92),
 .nt (.fz 89),
 .nt (.fz 90),
 .op (mo (.call (.f 11) [(.t 89), (.t 90), (.t 91), (.t 92)] [] []) 93),
 .op (mo (.mv (.t 93)) 88),
 .op (mo (.ext 0 (.t 88)) 94),
 .op (mo (.ext 1 (.t 88)) 95),
 .op (mo (.alloc [(.bool false), (.sl [])]) 16),
 .op ⟨.st 2 (.t 16) (.t 94), none, none⟩,
 .op (mo (.mv (.t 95)) 17)]))
 (.seq (.note (.gc [4, 5, 6, 7, 10, 13, 14, 15, 16, 17, 99, 100, 103, 104, 105, 106]) (.regI [.op (mo (.mv (.t 15)) 96),
 .op (mo (.bin false .neq (.t 96) (.c (.int .i64 0))) 97),
 .op (mo (.mv (.t 97)) 98),
 .grp mg_law28_ReadersCut_1,
 .op (mo (.mv (.t 101)) 102),
 .op ⟨.ld (some 2) (.t 14), (some 103), (some (102, false))⟩,
 .op ⟨.ld (some 2) (.t 16), (some 104), (some (102, false))⟩,
 .op ⟨.call (.f 20) [(.t 103), (.t 104)] [] [], (some 105), (some (102, false))⟩,
 .op ⟨.not (.t 105), (some 106), (some (102, false))⟩,
 .op (mo (.pick (.t 102) (.c (.bool true)) (.t 106)) 107)]))
 (.cond (.t 107)
 (.seq (.reg [mo (.mv (.c (.bool false))) 2])
 .ret)
 .skip)))))
 (.note (.gc [4, 5, 6, 7, 10, 13, 99, 100, 103, 104, 105, 106]) (.reg [mo (.mv (.t 13)) 78,
 mo (.bin true .add (.t 78) (.c (.int .i64 1))) 79,
 mo (.mv (.t 79)) 13]))))
def mc_law28_ReadersCut : MC :=
 (.seq (.reg [mo (.mv (.c (.bool false))) 2])
 (.seq (.seq (.reg [mo (.mv (.t 0)) 18,
 mo (.len false (.t 18)) 19,
 mo (.bin false .gtr (.t 19) (.c (.int .i64 400))) 20])
 (.cond (.t 20)
 (.seq (.reg [mo (.call (.f 7) [] [] []) 21,
 mo (.mv (.t 21)) 2])
 .ret)
 .skip))
 (.seq (.reg [mo (.mv (.t 0)) 22,
 mo (.build [(.sl []), (.int .i64 0)] [(0, 1, (.t 22))]) 23,
 mo (.box (.t 23)) 24,
 mo (.mv (.t 24)) 3])
 (.seq (.note (.gc [3, 99, 100, 103, 104, 105, 106]) (.reg [mo (.mv (.t 3)) 25,
 mo (.call (.f 8) [(.t 25)] [24] []) 26,
 mo (.alloc [(.sl []), (.sl [])]) 4,
 ⟨.st 2 (.t 4) (.t 26), none, none⟩]))
 (.seq (.reg [mo (.mv (.t 3)) 27,
 mo (.ld (some 2) (.t 4)) 28,
 mo (.call (.f 9) [(.t 27), (.t 28)] [24] []) 29,
 mo (.alloc [(.int .i64 0), (.sl [])]) 5,
 ⟨.st 2 (.t 5) (.t 29), none, none⟩])
 (.seq (.reg [mo (.mv (.t 3)) 30,
 mo (.call (.f 10) [(.t 30), (.c (.int .i64 32))] [24] []) 31,
 mo (.mv (.t 31)) 6])
 (.seq (.note (.gc [4, 5, 6, 99, 100, 103, 104, 105, 106]) (.reg [mo (.fad 0 (.t 4)) 32,
 mo (.ld none (.t 32)) 33,
 mo (.build [.nils, .nils] [(0, 1, (.t 33))]) 34,
 mo (.alloc [(.sl []), (.sl [])]) 7,
 ⟨.st 2 (.t 7) (.t 34), none, none⟩]))
 (.seq (.seq (.reg [mo (.fad 1 (.t 4)) 35,
 mo (.ld none (.t 35)) 36,
 mo (.len false (.t 36)) 37,
 mo (.mv (.c (.int .i64 0))) 38])
 (.block 0
 (.loop mc_law28_ReadersCut_L1)))
 (.seq (.reg [mo (.fad 0 (.t 5)) 53,
 mo (.ld none (.t 53)) 54,
 mo (.build [(.int .i64 0), .nils] [(0, 1, (.t 54))]) 55,
 mo (.alloc [(.int .i64 0), (.sl [])]) 10,
 ⟨.st 2 (.t 10) (.t 55), none, none⟩])
 (.seq (.seq (.reg [mo (.fad 1 (.t 5)) 56,
 mo (.ld none (.t 56)) 57,
 mo (.len false (.t 57)) 58,
 mo (.mv (.c (.int .i64 0))) 59])
 (.block 2
 (.loop mc_law28_ReadersCut_L2)))
 (.seq (.seq (.reg [mo (.mv (.c (.int .i64 0))) 13])
 (.block 4
 (.loop mc_law28_ReadersCut_L3)))
 (.seq (.reg [mo (.call (.f 7) [] [] []) 108,
 mo (.mv (.t 108)) 2])
 .ret))))))))))))
theorem ok_law28_ReadersCut : mc_law28_ReadersCut.ok Try.prog Try.f6.ntmps (Try.f6.body.getD .skip) = true := by kernel_rfl
theorem Wq_law28_ReadersCut (l_ : List Int) {Q : Bool → Prop} {Q' : V → Heap → Prop} (h : Ok (F_law28_ReadersCut l_) Q) (hQ : ∀ z, Q z → Q' (.bool z) []) : ACall Try.prog 6 [.sl (l_.map (V.int .i64))] [] Q' := by
 refine acall_machN [] [] [.t 2] Try.func6 rfl (by kernel_rfl) ok_law28_ReadersCut (by kernel_rfl) rfl rfl fun M hf => ?_
 clear hf
 unfold F_law28_ReadersCut at h
 unfold mc_law28_ReadersCut
 (try replace h := tH h)
 refine tB ?_
 repeat' (first
 |(exact hQ _ h)
 |(exact trivial)
 |(exact False.elim h)
 |(have hq := hQ _ h; replace hq := tH hq; exact hq)
 |((first | refine oblg h ?_ | refine roomG h ?_ | refine fork h ?_ ?_ | refine forkS h ?_ ?_) <;> clear h <;> intro hc h)
 |(refine And.intro (chkD_of rfl) ?_)
 |(obtain ⟨y, hy, h⟩ := h; (first | (with_reducible first | have hw := W_law28_awake hy | have hw := W_readers_Who hy | have hw := W_ref28_Same hy) | have hw := acall_swe 1000 24 (W_made_Directory hy) | have hw := acall_swe 1000 24 (W_made_Estate hy) | have hw := acall_swe 1000 24 (W_made_Tape_Next hy)); (try replace hw := tH hw); (first | (refine sCall_of hw rfl rfl ?_; rw [M.lok_eq]) | (refine sCallD_of hw rfl rfl ?_; rw [M.lokD_eq])); clear hw; clear hy; refine tB ?_)
 |(refine M.fold1 (b := mc_law28_ReadersCut_L1) 38 [4, 5, 6, 7, 36, 37] [5, 4] (fun x => []) (fun x => [.o 7 (.cells [.sl (x.1.map (V.int .i64)), .osl 4113 4 0 x.2.length]), .o 4113 (.arr 4 (x.2.map GMember.v))]) [.gc [4, 5, 6, 7, 36, 37, 38], .ownC 7 1 4113 4 none] h ?_ ?_ ?_ <;> first
  |(clear h; intro k a x Qn K hK1 hkN1 ha1 h hf; have hl := fact_int (factsE_find (n := 37) hf.1 rfl); clear hf; have hkd := kD hkN1; have hkB1 := kB hkN1; have hkI1 := kI (k := k) (by omega); unfold F_law28_ReadersCut_L1 at h; unfold mc_law28_ReadersCut_L1; (try replace h := tH h); refine tK ha1 hkd hkN1 hkB1 hkI1 ?_)
  |(clear h; intro x K h; replace h := And.left (And.intro h trivial); unfold mc_law28_ReadersCut_L1; (try replace h := tH h); refine tB ?_)
  |(clear h; (try refine tB ?_); exact tU0; done)
      | fail)
 |(refine M.fold1 (b := mc_law28_ReadersCut_L2) 59 [4, 5, 6, 7, 10, 57, 58] [7, 4113, 5, 4] (fun x => []) (fun x => [.o 10 (.cells [.int .i64 x.1, .osl 4161 7 0 x.2.length]), .o 4161 (.arr 7 (x.2.map GAccess.v))]) [.gc [4, 5, 6, 7, 10, 57, 58, 59], .ownC 10 1 4161 7 none] h ?_ ?_ ?_ <;> first
  |(clear h; intro k a x Qn K hK2 hkN2 ha2 h hf; have hl := fact_int (factsE_find (n := 58) hf.1 rfl); clear hf; have hkd := kD hkN2; have hkB2 := kB hkN2; have hkI2 := kI (k := k) (by omega); unfold F_law28_ReadersCut_L2 at h; unfold mc_law28_ReadersCut_L2; (try replace h := tH h); refine tK ha2 hkd hkN2 hkB2 hkI2 ?_)
  |(clear h; intro x K h; replace h := And.left (And.intro h trivial); unfold mc_law28_ReadersCut_L2; (try replace h := tH h); refine tB ?_)
  |(clear h; (try refine tB ?_); exact tU0; done)
      | fail)
 |(refine M.gv1 (ms := mg_law28_ReadersCut_1) 101 [99, 100] h ?_ ?_ <;> first
  |(clear h; intro K hK3; unfold mg_law28_ReadersCut_1; refine tB ?_)
  |(clear h; intro b h; (try replace h := tH h); refine tB ?_)
      | fail)
 |(refine M.wh1 (b := mc_law28_ReadersCut_L3) [4, 5, 6, 7, 10] [5, 4] (fun x => [(13, .int .i64 x.1)]) (fun x => [.o 10 (.cells [.int .i64 x.2.1.Places, .sl (x.2.1.Events.map GAccess.v)]), .o 7 (.cells [.sl (x.2.2.Kinds.map (V.int .i64)), .sl (x.2.2.Events.map GMember.v)])]) [.fzc 10, .fzc 7] h ?_ ?_ <;> first
  |(clear h; intro x Qn K hK4 h; unfold F_law28_ReadersCut_L3 at h; unfold mc_law28_ReadersCut_L3; (try replace h := tH h); refine tB ?_)
  |(clear h; (try refine tB ?_); exact tU0; done)
      | fail)
 |(refine And.intro (by first | exact hkI1 | exact hkN1 | exact hkB1 | exact hkI2 | exact hkN2 | exact hkB2) ?_)
 |(first | simp only [ha1] | simp only [ha2])
 |((first | refine hK1 _ ?_ | refine hK2 _ ?_ | refine hK4 _ ?_); (try refine tB ?_); refine ⟨_, h, ?_⟩; exact tU0; done)
 |(refine hK3 _ ?_; exact tU; done)
 |(refine bfork (fun hc => ?_) (fun hc => ?_))
 |(refine ⟨_, getE_map (inb_toNat (by assumption)), ?_⟩; (first | rw [M.lok_compU] | rw [M.lokD_compU]); refine tB ?_)
 |(refine And.intro (ltb_of (by assumption)) ?_)
 |(refine And.intro (inb_nat (by assumption)) ?_)
 |(refine And.intro (by omega) ?_)
   | fail)
theorem W_law28_ReadersCut : ∀ {l_ : List Int} {y : Bool}, F_law28_ReadersCut l_ = some y → ACall Try.prog 6 [.sl (l_.map (V.int .i64))] [] (fun r H => r = .bool y ∧ H = []) :=
 fun hy => Wq_law28_ReadersCut _ (Q := (· = _)) ⟨_, hy, rfl⟩ fun | _, rfl => ⟨rfl, rfl⟩
end Go.Ab
