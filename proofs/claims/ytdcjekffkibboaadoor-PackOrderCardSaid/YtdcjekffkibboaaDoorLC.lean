/- What the functions of this seat that lie on the laws' road compute (part LC), each for every input. By AI agents. -/
import Derived.Test.YtdcjekffkibboaaDoorProg
import Derived.KernelRfl
import Derived.Test.YtdcjekffkibboaaDoorAbFun
import Derived.Test.YtdcjekffkibboaaDoorLD
set_option linter.all false
set_option linter.all false
set_option maxRecDepth 20000
set_option maxHeartbeats 2000000
namespace Go.Ab
open Go.Proofs
noncomputable def F_22 (y4 : (List GPacked) × GTape) (x11 : Int × (List GPacked)) : Option (Fl (Int × (List GPacked)) (List GPacked)) :=
 bif decide (0 ≤ x11.1) then chk (inb x11.1 y4.1.length) (chk (room (x11.2.length + [(y4.1.getD (x11.1).toNat default)].length) 72) (chk (in64 (x11.1 - 1)) (some (.nx ((x11.1 - 1), (x11.2 ++ [(y4.1.getD (x11.1).toNat default)])))))) else some (.ex x11.2)
noncomputable def F_23 (y14 : (List GObject) × Int) (y16 : (List GObject) × Int) (x57 : Int) : Option (Fl Int (Sum Unit Bool)) :=
 bif decide (x57 < (y14.1.length : Int)) then chk (inb x57 y14.1.length) (chk (in64 ((y16.1.length : Int) - 1)) (chk (in64 (((y16.1.length : Int) - 1) - x57)) (chk (inb (((y16.1.length : Int) - 1) - x57) y16.1.length) ((F_19 (y14.1.getD (x57).toNat default) (y16.1.getD ((((y16.1.length : Int) - 1) - x57)).toNat default)).bind fun y65 => bif (!y65) then some (.ex (.inr false)) else chk (in64 (x57 + 1)) (some (.nx (x57 + 1))))))) else some (.ex (.inl ()))
noncomputable def F_1o (tape_ : List Int) : Option Bool :=
 (F_18 (GTape.mk tape_ 0)).bind fun y3 => (F_1a y3.2 y3.1.Objects).bind fun y4 => chk (in64 ((y4.1.length : Int) - 1)) ((loop (F_22 y4) (((y4.1.length : Int) - 1),[])).bind fun r12 => (F_f y4.1).bind fun y14 => (F_f r12).bind fun y16 => grp (((!decide (y14.2 = 0)) || (!decide (y16.2 = 0)))) fun b26 => grp ((b26 || (!decide ((y14.1.length : Int) = (y4.1.length : Int))))) fun b27 => grp ((b27 || (!decide ((y16.1.length : Int) = (y4.1.length : Int))))) fun b28 => bif b28 then some false else (loop (F_23 y14 y16) 0).bind fun r66 => Sum.elim (fun u67 => F_15.bind fun y70 => some y70) (fun u68 => some u68) r66)
@[irreducible] def mc_22 : MC :=
 (.seq (sR [oV 6 23,
 mo (.bin false .geq (.t 23) (cI 0)) 24]
 (.cond (.t 24)
 .skip
 (.exit 0)))
 (.seq (.block 1
 (.reg [oV 5 27,
 oV 4 28,
 oV 6 29,
 mo (.iad 5 (.t 28) (.t 29)) 30,
 mo (.ld (some 5) (.t 30)) 31,
 mo (.bslice 5 [(.t 31)]) 32,
 mo (.app 5 72 (.t 27) (.t 32)) 33,
 oV 33 5]))
 (.note (.gc [4,5,6,47,48,51,52,53,54,55,58,59,60,61,62]) (.reg [oV 6 25,
 mo (.bin true .sub (.t 25) (cI 1)) 26,
 oV 26 6]))))
@[irreducible] def mg_3u : List MOp := [gF 46 47 (.mv (.t 10)),
 gF 46 48 (.bin false .neq (.t 47) (cI 0)),
 mo (.pick (.t 46) (.c (.bool true)) (.t 48)) 49]
@[irreducible] def mg_3v : List MOp := [gF 50 51 (.mv (.t 7)),
 gF 50 52 (.len false (.t 51)),
 gF 50 53 (.mv (.t 4)),
 gF 50 54 (.len false (.t 53)),
 gF 50 55 (.bin false .neq (.t 52) (.t 54)),
 mo (.pick (.t 50) (.c (.bool true)) (.t 55)) 56]
@[irreducible] def mg_3w : List MOp := [gF 57 58 (.mv (.t 9)),
 gF 57 59 (.len false (.t 58)),
 gF 57 60 (.mv (.t 4)),
 gF 57 61 (.len false (.t 60)),
 gF 57 62 (.bin false .neq (.t 59) (.t 61)),
 mo (.pick (.t 57) (.c (.bool true)) (.t 62)) 63]
@[irreducible] def mc_23 : MC :=
 (.seq (sR [oV 11 64,
 oV 7 65,
 mo (.len false (.t 65)) 66,
 mo (.bin false .lss (.t 64) (.t 66)) 67]
 (.cond (.t 67)
 .skip
 (.exit 2)))
 (.seq (.block 3
 (.seq (.regD [oV 7 70,
 oV 11 71,
 mo (.iad 8 (.t 70) (.t 71)) 72,
 mo (.ld (some 8) (.t 72)) 73,
 oV 9 74,
 oV 9 75,
 mo (.len false (.t 75)) 76,
 mo (.bin true .sub (.t 76) (cI 1)) 77,
 oV 11 78,
 mo (.bin true .sub (.t 77) (.t 78)) 79,
 mo (.iad 8 (.t 74) (.t 79)) 80,
 mo (.ld (some 8) (.t 80)) 81,
 mo (.call (.f 9) [(.t 73),(.t 81)] [] []) 82,
 mo (.not (.t 82)) 83]
 [[],[],[0,1],[2],[],[],[5],[6],[],[7,8],[4,9],[10],[3,11],[12]]
 [[],[],[0,1],[0,1,2],[],[],[5],[5,6],[],[5,6,7,8],[4,5,6,7,8,9],[4,5,6,7,8,9,10],[0,1,2,3,4,5,6,7,8,9,10,11],[0,1,2,3,4,5,6,7,8,9,10,11,12]])
 (.cond (.t 83)
 (sR [mo (.mv (.c (.bool false))) 2]
 .ret)
 .skip)))
 (.note (.gc [7,9,11]) (.reg [oV 11 68,
 mo (.bin true .add (.t 68) (cI 1)) 69,
 oV 69 11]))))
def mc_1o : MC :=
 (sR [mo (.mv (.c (.bool false))) 2]
 (sR [oV 0 12,
 mo (.build [(.sl []),(.int .i64 0)] [(0,1,(.t 12))]) 13,
 mo (.box (.t 13)) 14,
 oV 14 3]
 (sR [oV 3 15,
 oV 3 16,
 mo (.call (.f 7) [(.t 16)] [14] []) 17,
 mo (.fld none 0 (.t 17)) 18,
 mo (.call (.f 6) [(.t 15),(.t 18)] [14] []) 19,
 oV 19 4]
 (sR [mo (.mv (.c .nils)) 5]
 (.seq (.seq (.note (.gc [4,5,47,48,51,52,53,54,55,58,59,60,61,62]) (.reg [oV 4 20,
 mo (.len false (.t 20)) 21,
 mo (.bin true .sub (.t 21) (cI 1)) 22,
 oV 22 6]))
 (.block 0
 (.loop mc_22)))
 (sR [oV 4 35,
 mo (.call (.f 8) [(.t 35)] [] []) 36,
 oV 36 34,
 mo (.ext 0 (.t 34)) 37,
 mo (.ext 1 (.t 34)) 38,
 oV 37 7,
 oV 38 8]
 (.seq (.regI [.op (oV 5 40),
 .nt (.fz 40),
 .op (mo (.call (.f 8) [(.t 40)] [] []) 41),
 .op (oV 41 39),
 .op (mo (.ext 0 (.t 39)) 42),
 .op (mo (.ext 1 (.t 39)) 43),
 .op (oV 42 9),
 .op (oV 43 10)])
 (.seq (.seq (.note (.gc [4,7,8,9,10,47,48,51,52,53,54,55,58,59,60,61,62]) (.regI [.op (oV 8 44),
 .op (mo (.bin false .neq (.t 44) (cI 0)) 45),
 .op (oV 45 46),
 .grp mg_3u,
 .op (oV 49 50),
 .grp mg_3v,
 .op (oV 56 57),
 .grp mg_3w]))
 (.cond (.t 63)
 (sR [mo (.mv (.c (.bool false))) 2]
 .ret)
 .skip))
 (.seq (sR [oC 0 11]
 (.block 2
 (.loop mc_23)))
 (sR [mo (.call (.f 10) [] [] []) 84,
 oV 84 2]
 .ret))))))))))
theorem Wq_1o {tape_ : List Int} : Cn Tryd.prog 3 [.sl (tape_.map (V.int .i64))] [] (F_1o tape_) (fun z => .bool z) (fun z => []) := fun Q Q' h hQ => by
 refine acallM mc_1o [] [] [.t 2] Tryd.func3 fun M => ?_
 unfold F_1o at h
 unfold mc_1o
 replace h := tY h
 refine tB ?_
 repeat' (first
 | (exact tZ)
 | ((first | refine oblg h ?_ | refine roomG h ?_ | refine fork h ?_ ?_ | refine forkS h ?_ ?_) <;> clear h <;> intro hc h)
 | (obtain ⟨y, hy, h⟩ := h; (first | (with_reducible first | have hw := Wq_f.w hy | have hw := Wq_19.w hy | have hw := Wq_15.w hy) | have hw := acall_swe 1000 14 (Wq_18.w hy) | have hw := acall_swe 1000 14 (Wq_1a.w hy)); replace hw := tY hw; (first | refine M.sC hw ?_ | refine M.sD hw ?_); clear hw hy; refine tB ?_)
 | (refine M.wh1 (b := mc_22) [4] [] (fun x => [(5, .osl 2005 5 0 x.2.length), (6, .int .i64 x.1)]) (fun x => [.o 2005 (.arr 5 (x.2.map GPacked.v))]) [.gc [4,5,6], .acc 5 2005 5] h ?_ ?_ <;> first
 | (clear h; intro x Qn K hK1 h; unfold F_22 at h; unfold mc_22; replace h := tY h; refine tB ?_)
  |(clear h; (try refine tB ?_); exact tU0; done))
 | (refine M.wh1 (b := mc_23) [7,9] [] (fun x => [(11, .int .i64 x)]) (fun x => []) [] h ?_ ?_ <;> first
 | (clear h; intro x Qn K hK2 h; unfold F_23 at h; unfold mc_23; replace h := tY h; refine tB ?_)
  |(clear h; (try refine tB ?_); exact tU0; done))
 | (refine M.gv1 (ms := mg_3w) 63 [58,59,60,61,62] h ?_ ?_ <;> first
 | (clear h; intro K hK3; unfold mg_3w; refine tB ?_)
 | (clear h; intro b h; replace h := tY h; refine tB ?_))
 | (refine M.gv1 (ms := mg_3v) 56 [51,52,53,54,55] h ?_ ?_ <;> first
 | (clear h; intro K hK4; unfold mg_3v; refine tB ?_)
 | (clear h; intro b h; replace h := tY h; refine tB ?_))
 | (refine M.gv1 (ms := mg_3u) 49 [47,48] h ?_ ?_ <;> first
 | (clear h; intro K hK5; unfold mg_3u; refine tB ?_)
 | (clear h; intro b h; replace h := tY h; refine tB ?_))
 | ((first | refine hK1 _ ?_ | refine hK2 _ ?_); (try refine tB ?_); refine ⟨_, h, ?_⟩; exact tU0; done)
 | ((first | refine hK3 _ ?_ | refine hK4 _ ?_ | refine hK5 _ ?_); exact tU; done)
 | (refine bfork (fun hc => ?_) (fun hc => ?_))
 | (refine tE ?_; (first | rw [M.lok_compU] | rw [M.lokD_compU]); refine tB ?_)
 | (refine tA ?_)
 | fail)
end Go.Ab
