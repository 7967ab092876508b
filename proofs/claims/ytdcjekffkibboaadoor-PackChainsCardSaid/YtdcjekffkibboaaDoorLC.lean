/- What the functions of this seat that lie on the laws' road compute (part LC), each for every input. By AI agents. -/
import Derived.Test.YtdcjekffkibboaaDoorProg
import Derived.KernelRfl
import Derived.Test.YtdcjekffkibboaaDoorAbFun
import Derived.Test.YtdcjekffkibboaaDoorLA
set_option linter.all false
set_option linter.all false
set_option maxRecDepth 20000
set_option maxHeartbeats 2000000
namespace Go.Ab
open Go.Proofs
noncomputable def F_1o (n_ : Int) (x7 : Int × (List GPacked)) : Option (Fl (Int × (List GPacked)) (List GPacked)) :=
 bif decide (x7.1 ≤ (18 + (n_ % 2 ^ 2))) then chk (in64 (x7.1 + 1)) (chk (in64 (4 + x7.1)) (chk (room (x7.2.length + [(GPacked.mk (x7.1 + 1) true x7.1 [(GOp.mk 0 (4 + x7.1) []), (GOp.mk 0 0 [120])] [])].length) 72) (chk (in64 (x7.1 + 1)) (some (.nx ((x7.1 + 1), (x7.2 ++ [(GPacked.mk (x7.1 + 1) true x7.1 [(GOp.mk 0 (4 + x7.1) []), (GOp.mk 0 0 [120])] [])]))))))) else some (.ex x7.2)
noncomputable def F_1f (n_ : Int) : Option Bool :=
 chk (in64 (18 + (n_ % 2 ^ 2))) ((loop (F_1o n_) (1,[(GPacked.mk 1 false 0 [] [98,108,111,98,10])])).bind fun r8 => (F_4 r8).bind fun y10 => jn (α := Fl Unit Bool) (bif decide (20 < (18 + (n_ % 2 ^ 2))) then bif (!decide (y10.2 = 9)) then some (.ex false) else some (.nx ()) else bif (!decide (y10.2 = 0)) then some (.ex false) else chk (in64 ((18 + (n_ % 2 ^ 2)) + 1)) (bif (!decide ((y10.1.length : Int) = ((18 + (n_ % 2 ^ 2)) + 1))) then some (.ex false) else chk (inb (18 + (n_ % 2 ^ 2)) y10.1.length) (bif (!decide ((((y10.1.getD ((18 + (n_ % 2 ^ 2))).toNat default).Data).length : Int) = (18 + (n_ % 2 ^ 2)))) then some (.ex false) else chk (in64 ((18 + (n_ % 2 ^ 2)) + 1)) ((F_6 r8 ((18 + (n_ % 2 ^ 2)) + 1)).bind fun y15 => bif (!decide (y15 = (18 + (n_ % 2 ^ 2)))) then some (.ex false) else some (.nx ()))))) fun o => o.elim (fun j13 => chk (in64 ((18 + (n_ % 2 ^ 2)) + 1)) (chk (inb 0 r8.length) ((F_4 (r8.set 0 (GPacked.mk 1 true ((18 + (n_ % 2 ^ 2)) + 1) [(GOp.mk 0 1 [])] []))).bind fun y17 => jn (α := Bool) (bif decide (y17.2 = 8) then (F_6 (r8.set 0 (GPacked.mk 1 true ((18 + (n_ % 2 ^ 2)) + 1) [(GOp.mk 0 1 [])] [])) 1).bind fun y23 => some (decide (y23 = (-1))) else some false) fun j24 => jn (α := Bool) (bif j24 then F_14.bind fun y26 => some y26 else some false) fun j27 => some j27))) (fun r28 => some r28))
@[irreducible] def mc_1o : MC :=
 (.seq (sR [oV 5 15,
 oV 3 16,
 mo (.bin false .leq (.t 15) (.t 16)) 17]
 (.cond (.t 17)
 .skip
 (.exit 0)))
 (.seq (.block 1
 (.regI [.op (oV 4 20),
 .op (oV 5 21),
 .op (mo (.bin true .add (.t 21) (cI 1)) 22),
 .op (oV 5 23),
 .op (oV 5 24),
 .op (mo (.bin true .add (cI 4) (.t 24)) 25),
 .op (mo (.build [(.int .i64 0),(.int .i64 0),(.sl [])] [(1,1,(.t 25))]) 26),
 .op (mo (.bslice 1 [(.c (.int .u8 120))]) 27),
 .op (mo (.mks (.t 27)) 28),
 .op (mo (.build [(.int .i64 0),(.int .i64 0),(.sl [])] [(2,1,(.t 28))]) 29),
 .nt (.fz 29),
 .op (mo (.lsl 3 [(.t 26),(.t 29)]) 30),
 .op (mo (.build [(.int .i64 0),(.bool false),(.int .i64 0),(.sl []),(.sl [])] [(0,1,(.t 22)), (1,1,(.c (.bool true))), (2,1,(.t 23)), (3,1,(.t 30))]) 31),
 .op (mo (.bslice 5 [(.t 31)]) 32),
 .op (mo (.app 5 72 (.t 20) (.t 32)) 33),
 .op (oV 33 4)]))
 (.note (.gc [3,4,5,46,47,48,49,50,53,54,55,56,57,58,59,60,63,64,65,66,67,68,85,86,87,90]) (.reg [oV 5 18,
 mo (.bin true .add (.t 18) (cI 1)) 19,
 oV 19 5]))))
@[irreducible] def mg_2u : List MOp := [gT 84 85 (.mv (.t 4)),
 gT 84 86 (.call (.f 11) [(.t 85), (cI 1)] [2004] []),
 gT 84 87 (.bin false .eql (.t 86) (cI (-1))),
 mo (.pick (.t 84) (.t 87) (.c (.bool false))) 88]
@[irreducible] def mg_2v : List MOp := [gT 89 90 (.call (.f 10) [] [] []),
 mo (.pick (.t 89) (.t 90) (.c (.bool false))) 91]
@[irreducible] def mc_2w : MC :=
 (sR [oV 4 70,
 oV 3 71,
 mo (.bin true .add (.t 71) (cI 1)) 72,
 mo (.build [(.int .i64 0),(.int .i64 0),(.sl [])] [(1,1, (cI 1))]) 73,
 mo (.lsl 3 [(.t 73)]) 74,
 mo (.build [(.int .i64 0),(.bool false),(.int .i64 0),(.sl []),(.sl [])] [(0,1, (cI 1)), (1,1,(.c (.bool true))), (2,1,(.t 72)), (3,1,(.t 74))]) 75,
 mo (.iad 5 (.t 70) (cI 0)) 76,
 ⟨.st 5 (.t 76) (.t 75), none, none⟩]
 (.seq (.note (.gc [4,85,86,87,90]) (.reg [oV 4 78,
 mo (.call (.f 8) [(.t 78)] [2004] []) 79,
 oV 79 77,
 mo (.ext 0 (.t 77)) 80,
 mo (.ext 1 (.t 77)) 81,
 oV 81 7]))
 (.seq (.regI [.op (oV 7 82),
 .op (mo (.bin false .eql (.t 82) (cI 8)) 83),
 .op (oV 83 84),
 .grp mg_2u,
 .op (oV 88 89),
 .grp mg_2v,
 .op (oV 91 2)])
 .ret)))
def mc_1f : MC :=
 (sR [mo (.mv (.c (.bool false))) 2]
 (sR [oV 0 8,
 mo (.mask 2 (.t 8) .i64) 9,
 mo (.bin true .add (cI 18) (.t 9)) 10,
 oV 10 3]
 (.seq (.regI [.op (mo (.bslice 1 [(.c (.int .u8 98)),(.c (.int .u8 108)),(.c (.int .u8 111)),(.c (.int .u8 98)),(.c (.int .u8 10))]) 11),
 .op (mo (.mks (.t 11)) 12),
 .op (mo (.build [(.int .i64 0),(.bool false),(.int .i64 0),(.sl []),(.sl [])] [(0,1, (cI 1)), (4,1,(.t 12))]) 13),
 .nt (.fz 13),
 .op (mo (.bslice 5 [(.t 13)]) 14),
 .op (oV 14 4)])
 (.seq (sR [oC 1 5]
 (.block 0
 (.loop mc_1o)))
 (sR [oV 4 35,
 mo (.call (.f 8) [(.t 35)] [2004] []) 36,
 oV 36 34,
 mo (.ext 0 (.t 34)) 37,
 mo (.ext 1 (.t 34)) 38,
 oV 37 6,
 oV 38 7]
 (.cut (sR [oV 3 39,
 mo (.bin false .gtr (.t 39) (cI 20)) 40]
 (.cond (.t 40)
 (sR [oV 7 41,
 mo (.bin false .neq (.t 41) (cI 9)) 42]
 (.cond (.t 42)
 (sR [mo (.mv (.c (.bool false))) 2]
 .ret)
 .skip))
 (sR [oV 7 43,
 mo (.bin false .neq (.t 43) (cI 0)) 44,
 oV 44 45,
 gF 45 46 (.mv (.t 6)),
 gF 45 47 (.len false (.t 46)),
 gF 45 48 (.mv (.t 3)),
 gF 45 49 (.bin true .add (.t 48) (cI 1)),
 gF 45 50 (.bin false .neq (.t 47) (.t 49)),
 mo (.pick (.t 45) (.c (.bool true)) (.t 50)) 51,
 oV 51 52,
 gF 52 53 (.mv (.t 6)),
 gF 52 54 (.mv (.t 3)),
 gF 52 55 (.iad 8 (.t 53) (.t 54)),
 gF 52 56 (.fad 2 (.t 55)),
 gF 52 57 (.ld none (.t 56)),
 gF 52 58 (.len false (.t 57)),
 gF 52 59 (.mv (.t 3)),
 gF 52 60 (.bin false .neq (.t 58) (.t 59)),
 mo (.pick (.t 52) (.c (.bool true)) (.t 60)) 61,
 oV 61 62,
 gF 62 63 (.mv (.t 4)),
 gF 62 64 (.mv (.t 3)),
 gF 62 65 (.bin true .add (.t 64) (cI 1)),
 gF 62 66 (.call (.f 11) [(.t 63),(.t 65)] [2004] []),
 gF 62 67 (.mv (.t 3)),
 gF 62 68 (.bin false .neq (.t 66) (.t 67)),
 mo (.pick (.t 62) (.c (.bool true)) (.t 68)) 69]
 (.cond (.t 69)
 (sR [mo (.mv (.c (.bool false))) 2]
 .ret)
 .skip))))
 mc_2w))))))
theorem Wq_1f {n_ : Int} : Cn Tryd.prog 4 [.int .i64 n_] [] (F_1f n_) (fun z => .bool z) (fun z => []) := fun Q Q' h hQ => by
 refine acallM mc_1f [] [] [.t 2] Tryd.func4 fun M => ?_
 unfold F_1f at h
 unfold mc_1f
 replace h := tY h
 refine tB ?_
 repeat' (first
 | (exact tZ)
 | ((first | refine oblg h ?_ | refine roomG h ?_ | refine fork h ?_ ?_ | refine forkS h ?_ ?_) <;> clear h <;> intro hc h)
 | (obtain ⟨y, hy, h⟩ := h; (first | (with_reducible first | have hw := Wq_14.w hy) | have hw := acall_swe 1000 2004 (Wq_4.w hy) | have hw := acall_swe 1000 2004 (Wq_6.w hy)); replace hw := tY hw; (first | refine M.sC hw ?_ | refine M.sD hw ?_); clear hw hy; refine tB ?_)
 | (refine M.wh1 (b := mc_1o) [3] [] (fun x => [(4, .osl 2004 5 0 x.2.length), (5, .int .i64 x.1)]) (fun x => [.o 2004 (.arr 5 (x.2.map GPacked.v))]) [.gc [3,4,5], .acc 4 2004 5] h ?_ ?_ <;> first
 | (clear h; intro x Qn K hK1 h; unfold F_1o at h; unfold mc_1o; replace h := tY h; refine tB ?_)
  |(clear h; (try refine tB ?_); exact tU0; done))
 | (refine M.gj1 (ms := mg_2v) [] [] (fun y => [(91, .bool y)]) (fun y => []) h ?_ ?_ <;> first
 | (clear h; intro Qn K hK2 h; unfold mg_2v; replace h := tY h; refine tB ?_)
  |(clear h; intro y h; replace h := tY h; refine tB ?_))
 | (refine M.gj1 (ms := mg_2u) [] [] (fun y => [(88, .bool y)]) (fun y => []) h ?_ ?_ <;> first
 | (clear h; intro Qn K hK3 h; unfold mg_2u; replace h := tY h; refine tB ?_)
  |(clear h; intro y h; replace h := tY h; refine tB ?_))
 | (refine M.jnE (b := mc_2w) [3,4] [2004] (fun y => []) (fun y => []) [] h ?_ ?_ <;> first
 | (clear h; intro Qn K hK4 h; replace h := tY h; refine tB ?_)
  |(clear h; intro y h; unfold mc_2w; replace h := tY h; refine tB ?_))
 | ((first | refine hK1 _ ?_ | refine hK2 _ ?_ | refine hK3 _ ?_ | refine hK4 _ ?_); (try refine tB ?_); refine ⟨_, h, ?_⟩; exact tU0; done)
 | (refine tE ?_; (first | rw [M.lok_compU] | rw [M.lokD_compU]); refine tB ?_)
 | (refine ⟨_, getE_mapset (by first | exact inb_toNat (by assumption) | exact inb_nat (by assumption)), ?_⟩; (first | rw [M.lok_compU] | rw [M.lokD_compU] | (simp only [V.cells]; first | rw [M.lok_comp] | rw [M.lokD_comp])); refine tB ?_)
 | (refine tA ?_)
 | fail)
end Go.Ab
