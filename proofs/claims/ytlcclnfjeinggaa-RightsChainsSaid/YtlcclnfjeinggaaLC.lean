/- What the functions of this seat that lie on the laws' road compute (part LC), each for every input. By AI agents. -/
import Derived.Test.YtlcclnfjeinggaaProg
import Derived.KernelRfl
import Derived.Test.YtlcclnfjeinggaaAbFun
import Derived.Test.YtlcclnfjeinggaaLB
set_option linter.all false
set_option linter.all false
set_option maxRecDepth 20000
set_option maxHeartbeats 2000000
namespace Go.Ab
open Go.Proofs
noncomputable def F_1u (y6 : GRights × GTape) (y8 : Int × GTape) (k341 : Int) (a342 : Int) (y440 : (List GLink) × Bool) (x459 : Int) : Option (Fl Int (Sum Unit Bool)) :=
 bif decide (x459 ≤ 3) then (F_f y6.1 y8.1 k341 x459 y440.1).bind fun y474 => grp ((y440.2 && decide (x459 ≤ a342))) fun b475 => bif (!(y474 == b475)) then some (.ex (.inr false)) else chk (in64 (x459 + 1)) (some (.nx (x459 + 1))) else some (.ex (.inl ()))
noncomputable def F_1l (y6 : GRights × GTape) (y8 : Int × GTape) (k341 : Int) (a342 : Int) (x340 : Unit) : Option (Fl Unit Bool) :=
 (F_7 y6.1 y8.1 k341).bind fun y440 => bif (!(y440.2 == decide (0 < a342))) then some (.ex false) else (loop (F_1u y6 y8 k341 a342 y440) 1).bind fun r476 => Sum.elim (fun u477 => some (.nx ())) (fun u478 => some (.ex u478)) r476
noncomputable def F_13 (l_ : List Int) : Option Bool :=
 bif decide (300 < (l_.length : Int)) then F_i.bind fun y4 => some y4 else (F_p (GTape.mk l_ 0)).bind fun y6 => (F_3 y6.2 y6.1.Credentials).bind fun y8 => (F_4 y6.1 y8.1).bind fun y10 => bif (!decide ((y10.length : Int) = y6.1.Resources)) then some false else (forL (F_1l y6 y8) y10 0 ()).bind fun o => o.elim (fun x479 => F_i.bind fun y482 => some y482) (fun r480 => some r480)
@[irreducible] def mg_2p : List MOp := [gT 62 63 (.mv (.t 11)),
 gT 62 64 (.mv (.t 8)),
 gT 62 65 (.bin false .leq (.t 63) (.t 64)),
 mo (.pick (.t 62) (.t 65) (.c (.bool false))) 66]
@[irreducible] def mc_1u : MC :=
 (.seq (sR [oV 11 51,
 mo (.bin false .leq (.t 51) (cI 3)) 52]
 (.cond (.t 52)
 .skip
 (.exit 2)))
 (.seq (.block 3
 (.seq (.regI [.op (mo (.ld (some 5) (.t 4)) 55),
 .op (oV 5 56),
 .op (oV 7 57),
 .op (oV 11 58),
 .op (oV 9 59),
 .op (mo (.call (.f 19) [(.t 55),(.t 56),(.t 57),(.t 58),(.t 59)] [] []) 60),
 .op (oV 10 61),
 .op (oV 61 62),
 .grp mg_2p,
 .op (mo (.beq true (.t 60) (.t 66)) 67)])
 (.cond (.t 67)
 (sR [mo (.mv (.c (.bool false))) 2]
 .ret)
 .skip)))
 (.note (.gc [4,5,7,8,9,10,11,33,34,35,63,64,65]) (.reg [oV 11 53,
 mo (.bin true .add (.t 53) (cI 1)) 54,
 oV 54 11]))))
@[irreducible] def mc_1l : MC :=
 (sR [mo (.bin false .lss (.t 35) (.t 34)) 36]
 (.seq (.cond (.t 36)
 .skip
 (.exit 0))
 (.seq (.block 1
 (sR [oV 35 37,
 mo (.iad 1 (.t 33) (.t 35)) 38,
 oL 38 39,
 oV 37 7,
 oV 39 8]
 (sR [mo (.ld (some 5) (.t 4)) 41,
 oV 5 42,
 oV 7 43,
 mo (.call (.f 18) [(.t 41),(.t 42),(.t 43)] [] []) 44,
 oV 44 40,
 mo (.ext 0 (.t 40)) 45,
 mo (.ext 1 (.t 40)) 46,
 oV 45 9,
 oV 46 10]
 (.seq (.seq (.note (.gc [4,5,7,8,9,10,33,34,35,63,64,65]) (.reg [oV 10 47,
 oV 8 48,
 mo (.bin false .gtr (.t 48) (cI 0)) 49,
 mo (.beq true (.t 47) (.t 49)) 50]))
 (.cond (.t 50)
 (sR [mo (.mv (.c (.bool false))) 2]
 .ret)
 .skip))
 (sR [oC 1 11]
 (.block 2
 (.loop mc_1u)))))))
 (.reg [mo (.bin true .add (.t 35) (cI 1)) 68,
 oV 68 35]))))
def mc_13 : MC :=
 (sR [mo (.mv (.c (.bool false))) 2]
 (.seq (sR [oV 0 12,
 mo (.len false (.t 12)) 13,
 mo (.bin false .gtr (.t 13) (cI 300)) 14]
 (.cond (.t 14)
 (sR [mo (.call (.f 7) [] [] []) 15,
 oV 15 2]
 .ret)
 .skip))
 (sR [oV 0 16,
 mo (.build [(.sl []),(.int .i64 0)] [(0,1,(.t 16))]) 17,
 mo (.box (.t 17)) 18,
 oV 18 3]
 (.seq (.note (.gc [3,63,64,65]) (.reg [oV 3 19,
 mo (.call (.f 8) [(.t 19)] [18] []) 20,
 mo (.alloc [(.int .i64 0),(.int .i64 0),(.sl []),(.sl []),(.sl [])]) 4,
 ⟨.st 5 (.t 4) (.t 20), none, none⟩]))
 (sR [oV 3 21,
 oF 0 4 22,
 oL 22 23,
 mo (.call (.f 9) [(.t 21),(.t 23)] [18] []) 24,
 oV 24 5]
 (sR [mo (.ld (some 5) (.t 4)) 25,
 oV 5 26,
 mo (.call (.f 11) [(.t 25),(.t 26)] [] []) 27,
 oV 27 6]
 (.seq (.seq (.note (.gc [4,5,6,63,64,65]) (.reg [oV 6 28,
 mo (.len false (.t 28)) 29,
 oF 1 4 30,
 oL 30 31,
 mo (.bin false .neq (.t 29) (.t 31)) 32]))
 (.cond (.t 32)
 (sR [mo (.mv (.c (.bool false))) 2]
 .ret)
 .skip))
 (.seq (sR [oV 6 33,
 mo (.len false (.t 33)) 34,
 oC 0 35]
 (.block 0
 (.loop mc_1l)))
 (sR [mo (.call (.f 7) [] [] []) 69,
 oV 69 2]
 .ret)))))))))
theorem Wq_13 {l_ : List Int} : Cn Try.prog 6 [.sl (l_.map (V.int .i64))] [] (F_13 l_) (fun z => .bool z) (fun z => []) := fun Q Q' h hQ => by
 refine acallM mc_13 [] [] [.t 2] Try.func6 fun M => ?_
 unfold F_13 at h
 unfold mc_13
 replace h := tY h
 refine tB ?_
 repeat' (first
 | (exact tZ)
 | ((first | refine oblg h ?_ | refine roomG h ?_ | refine fork h ?_ ?_ | refine forkS h ?_ ?_) <;> clear h <;> intro hc h)
 | (obtain ⟨y, hy, h⟩ := h; (first | (with_reducible first | have hw := Wq_i.w hy | have hw := Wq_4.w hy | have hw := Wq_7.w hy | have hw := Wq_f.w hy) | have hw := acall_swe 1000 18 (Wq_p.w hy) | have hw := acall_swe 1000 18 (Wq_3.w hy)); replace hw := tY hw; (first | refine M.sC hw ?_ | refine M.sD hw ?_); clear hw hy; refine tB ?_)
 | (refine M.gv1 (ms := mg_2p) 66 [63,64,65] h ?_ ?_ <;> first
 | (clear h; intro K hK1; unfold mg_2p; refine tB ?_)
 | (clear h; intro b h; replace h := tY h; refine tB ?_))
 | (refine M.wh1 (b := mc_1u) [4,5,7,8,9,10,33,34,35] [4] (fun x => [(11, .int .i64 x)]) (fun x => []) [] h ?_ ?_ <;> first
 | (clear h; intro x Qn K hK2 h; unfold F_1u at h; unfold mc_1u; replace h := tY h; refine tB ?_)
  |(clear h; (try refine tB ?_); exact tU0; done))
 | (refine M.for1 (b := mc_1l) 35 [4,5,33,34] [4] (fun x => []) (fun x => []) [] h ?_ ?_ ?_ <;> first
 | (clear h; intro k a x Qn K hK3 hkN3 ha3 h hf; have hl := fact_int (factsE_find (n := 34) hf.1 rfl); clear hf; have hkd := kD hkN3; have hkB3 := kB hkN3; have hkI3 := kI (k := k) (by omega); unfold F_1l at h; unfold mc_1l; replace h := tY h; refine tK ha3 hkd hkN3 hkB3 hkI3 ?_)
  |(clear h; intro x K h; replace h := And.left (And.intro h trivial); unfold mc_1l; replace h := tY h; refine tB ?_)
  |(clear h; (try refine tB ?_); exact tU0; done))
 | (simp only [ha3])
 | (refine hK1 _ ?_; exact tU; done)
 | ((first | refine hK2 _ ?_ | refine hK3 _ ?_); (try refine tB ?_); refine ⟨_, h, ?_⟩; exact tU0; done)
 | (refine bfork (fun hc => ?_) (fun hc => ?_))
 | (refine tE ?_; (first | rw [M.lok_compU] | rw [M.lokD_compU]); refine tB ?_)
 | (refine tA ?_)
 | fail)
end Go.Ab
