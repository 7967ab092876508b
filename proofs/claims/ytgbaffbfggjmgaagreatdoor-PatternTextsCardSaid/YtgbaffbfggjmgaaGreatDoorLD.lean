/- What the functions of this seat that lie on the laws' road compute (part LD), each for every input. By AI agents. -/
import Derived.Test.YtgbaffbfggjmgaaGreatDoorProg
import Derived.KernelRfl
import Derived.Test.YtgbaffbfggjmgaaGreatDoorAbFun
import Derived.Test.YtgbaffbfggjmgaaGreatDoorLC
set_option linter.all false
set_option linter.all false
set_option maxRecDepth 20000
set_option maxHeartbeats 2000000
namespace Go.Ab
open Go.Proofs
noncomputable def F_26 (raw_ : GNode) (y3 : GNode × GTape) (y4 : GNode × GTape) (x73 : Int) : Option (Fl Int (Sum Unit Bool)) :=
 bif decide (x73 < ([raw_, y3.1, y4.1].length : Int)) then jn (α := Fl Unit Bool) (chk (inb x73 [raw_, y3.1, y4.1].length) ((F_1m ([raw_, y3.1, y4.1].getD ((x73).toNat) default)).bind fun y100 => bif (!y100) then some (.nx ()) else chk (inb x73 [raw_, y3.1, y4.1].length) ((F_u ([raw_, y3.1, y4.1].getD ((x73).toNat) default)).bind fun y102 => chk (inb x73 [raw_, y3.1, y4.1].length) ((F_1l ([raw_, y3.1, y4.1].getD ((x73).toNat) default)).bind fun y104 => grp (((!decide (y102.2 = y104.2)) || (!decide (y102.1 = y104.1)))) fun b106 => bif b106 then some (.ex false) else some (.nx ()))))) fun o => o.elim (fun j96 => chk (in64 (x73 + 1)) (some (.nx (x73 + 1)))) (fun r107 => some (.ex (.inr r107))) else some (.ex (.inl ()))
noncomputable def F_1u (tape_ : List Int) (raw_ : GNode) (s_ : Str) : Option Bool :=
 (F_1n (GTape.mk tape_ 0)).bind fun y3 => (F_0 y3.2 5).bind fun y4 => (loop (F_26 raw_ y3 y4) 0).bind fun r108 => Sum.elim (fun u109 => jn (α := Bool) (bif decide (200 < (s_.length : Int)) then some true else (F_10 s_).bind fun y120 => (F_w s_).bind fun y121 => (F_4 y120 y121).bind fun y122 => some y122) fun j123 => jn (α := Bool) (bif j123 then F_1a.bind fun y125 => some y125 else some false) fun j126 => some j126) (fun u110 => some u110) r108
@[irreducible] def mg_4x : List MOp := [gF 54 55 (.mv (.t 10)),
 gF 54 56 (.mv (.t 12)),
 gF 54 57 (.bin false .neq (.t 55) (.t 56)),
 mo (.pick (.t 54) (.c (.bool true)) (.t 57)) 58]
@[irreducible] def mc_4y : MC :=
 (.reg [oV 9 27,
 mo (.bin true .add (.t 27) (cI 1)) 28,
 oV 28 9])
@[irreducible] def mc_26 : MC :=
 (.seq (sR [oV 9 23,
 oV 8 24,
 mo (.len false (.t 24)) 25,
 mo (.bin false .lss (.t 23) (.t 25)) 26]
 (.cond (.t 26)
 .skip
 (.exit 0)))
 (.cut (.block 1
 (.seq (sR [oV 8 29,
 oV 9 30,
 mo (.iad 5 (.t 29) (.t 30)) 31,
 mo (.ld (some 5) (.t 31)) 32,
 mo (.call (.f 11) [(.t 32)] [] []) 33,
 mo (.not (.t 33)) 34]
 (.cond (.t 34)
 (.exit 1)
 .skip))
 (.seq (.note (.gc [2,8,9,55,56,57,63,64,65,66,67,70]) (.reg [oV 8 36,
 oV 9 37,
 mo (.iad 5 (.t 36) (.t 37)) 38,
 mo (.ld (some 5) (.t 38)) 39,
 mo (.call (.f 23) [(.t 39)] [] []) 40,
 oV 40 35,
 mo (.ext 0 (.t 35)) 41,
 mo (.ext 1 (.t 35)) 42,
 oV 41 10,
 oV 42 11]))
 (.seq (.note (.gc [2,8,9,10,11,55,56,57,63,64,65,66,67,70]) (.reg [oV 8 44,
 oV 9 45,
 mo (.iad 5 (.t 44) (.t 45)) 46,
 mo (.ld (some 5) (.t 46)) 47,
 mo (.call (.f 24) [(.t 47)] [] []) 48,
 oV 48 43,
 mo (.ext 0 (.t 43)) 49,
 mo (.ext 1 (.t 43)) 50,
 oV 49 12,
 oV 50 13]))
 (.seq (.note (.gc [2,8,9,10,11,12,13,55,56,57,63,64,65,66,67,70]) (.regI [.op (oV 11 51),
 .op (oV 13 52),
 .op (mo (.bin false .neq (.t 51) (.t 52)) 53),
 .op (oV 53 54),
 .grp mg_4x]))
 (.cond (.t 58)
 (sR [mo (.mv (.c (.bool false))) 6]
 .ret)
 .skip))))))
 mc_4y))
@[irreducible] def mg_4z : List MOp := [gF 62 63 (.mv (.t 2)),
 gF 62 64 (.call (.f 25) [(.t 63)] [] []),
 gF 62 65 (.mv (.t 2)),
 gF 62 66 (.call (.f 26) [(.t 65)] [] []),
 gF 62 67 (.call (.f 20) [(.t 64),(.t 66)] [] []),
 mo (.pick (.t 62) (.c (.bool true)) (.t 67)) 68]
@[irreducible] def mg_50 : List MOp := [gT 69 70 (.call (.f 22) [] [] []),
 mo (.pick (.t 69) (.t 70) (.c (.bool false))) 71]
def mc_1u : MC :=
 (sR [mo (.box (.t 1)) 4,
 mo (.mv (.c (.bool false))) 6]
 (sR [oV 0 14,
 mo (.build [(.sl []),(.int .i64 0)] [(0,1,(.t 14))]) 15,
 mo (.box (.t 15)) 16,
 oV 16 7]
 (.seq (.regD [mo (.ld (some 5) (.t 4)) 17,
 oV 7 18,
 mo (.call (.f 9) [(.t 18)] [16] []) 19,
 oV 7 20,
 mo (.call (.f 10) [(.t 20), (cI 5)] [16] []) 21,
 mo (.bslice 5 [(.t 17),(.t 19),(.t 21)]) 22,
 oV 22 8]
 [[],[],[1],[],[3,2],[0,2,4],[5,4,0,1,2,3,4,5]]
 [[],[],[1],[],[1,2,3],[0,1,2,3,4],[0,1,2,3,4,5]])
 (.seq (sR [oC 0 9]
 (.block 0
 (.loop mc_26)))
 (.seq (.regI [.op (oV 2 59),
 .op (mo (.len true (.t 59)) 60),
 .op (mo (.bin false .gtr (.t 60) (cI 200)) 61),
 .op (oV 61 62),
 .grp mg_4z,
 .op (oV 68 69),
 .grp mg_50,
 .op (oV 71 6)])
 .ret)))))
theorem Wq_1u {tape_ : List Int} {raw_ : GNode} {s_ : Str} : Cn Tryz.prog 4 [.sl (tape_.map (V.int .i64)), GNode.v raw_, .str s_] [] (F_1u tape_ raw_ s_) (fun z => .bool z) (fun z => []) := fun Q Q' h hQ => by
 refine acallM mc_1u [] [] [.t 6] Tryz.func4 fun M => ?_
 unfold F_1u at h
 unfold mc_1u
 replace h := tY h
 refine tB ?_
 repeat' (first
 | (exact tZ)
 | ((first | refine oblg h ?_ | refine roomG h ?_ | refine inbG h ?_ | refine fork h ?_ ?_ | refine forkS h ?_ ?_) <;> clear h <;> intro hc h)
 | (obtain ⟨y, hy, h⟩ := h; (first | (with_reducible first | have hw := Wq_1m.w hy | have hw := Wq_u.w hy | have hw := Wq_1l.w hy | have hw := Wq_10.w hy | have hw := Wq_w.w hy | have hw := W_4 hy | have hw := Wq_1a.w hy) | have hw := acall_swe 1000 16 (Wq_1n.w hy) | have hw := acall_swe 1000 16 (W_0 hy)); replace hw := tY hw; (first | refine M.sC hw ?_ | refine M.sD hw ?_); clear hw hy; refine tB ?_)
 | (refine M.gv1 (ms := mg_4x) 58 [55,56,57] h ?_ ?_ <;> first
 | (clear h; intro K hK1; unfold mg_4x; refine tB ?_)
 | (clear h; intro b h; replace h := tY h; refine tB ?_))
 | (refine M.jnE (b := mc_4y) [2,8,9] [22] (fun y => []) (fun y => []) [] h ?_ ?_ <;> first
 | (clear h; intro Qn K hK2 h; replace h := tY h; refine tB ?_)
  |(clear h; intro y h; unfold mc_4y; replace h := tY h; refine tB ?_))
 | (refine M.wh1 (b := mc_26) [2,8] [22] (fun x => [(9, .int .i64 x)]) (fun x => []) [] h ?_ ?_ <;> first
 | (clear h; intro x Qn K hK3 h; unfold F_26 at h; unfold mc_26; replace h := tY h; refine tB ?_)
  |(clear h; (try refine tB ?_); exact tU0; done))
 | (refine M.gj1 (ms := mg_50) [] [] (fun y => [(71, .bool y)]) (fun y => []) h ?_ ?_ <;> first
 | (clear h; intro Qn K hK4 h; unfold mg_50; replace h := tY h; refine tB ?_)
  |(clear h; intro y h; replace h := tY h; refine tB ?_))
 | (refine M.gj1 (ms := mg_4z) [] [] (fun y => [(68, .bool y)]) (fun y => []) h ?_ ?_ <;> first
 | (clear h; intro Qn K hK5 h; unfold mg_4z; replace h := tY h; refine tB ?_)
  |(clear h; intro y h; replace h := tY h; refine tB ?_))
 | (refine hK1 _ ?_; exact tU; done)
 | ((first | refine hK2 _ ?_ | refine hK3 _ ?_ | refine hK4 _ ?_ | refine hK5 _ ?_); (try refine tB ?_); refine ⟨_, h, ?_⟩; exact tU0; done)
 | (refine bfork (fun hc => ?_) (fun hc => ?_))
 | (refine tE4 GNode.v ?_ (by simp only [← GNode.v_eq]; repeat (first | exact IsMap.nil | apply IsMap.cons)); (first | rw [M.lok_compU] | rw [M.lokD_compU] | (simp only [GNode.v_eq, V.cells]; first | rw [M.lok_comp] | rw [M.lokD_comp])); refine tB ?_)
 | (refine tE4 GNode.v ?_; (first | rw [M.lok_compU] | rw [M.lokD_compU] | (simp only [V.cells]; first | rw [M.lok_comp] | rw [M.lokD_comp])); refine tB ?_)
 | (refine tE ?_; (first | rw [M.lok_compU] | rw [M.lokD_compU]); refine tB ?_)
 | (refine tA ?_)
 | fail)
end Go.Ab
