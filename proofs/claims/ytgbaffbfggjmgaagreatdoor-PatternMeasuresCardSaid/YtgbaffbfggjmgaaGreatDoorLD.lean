/- What the functions of this seat that lie on the laws' road compute (part LD), each for every input. By AI agents. -/
import Derived.Test.YtgbaffbfggjmgaaGreatDoorProg
import Derived.KernelRfl
import Derived.Test.YtgbaffbfggjmgaaGreatDoorAbFun
import Derived.Test.YtgbaffbfggjmgaaGreatDoorLC
set_option linter.all false
set_option linter.all false
set_option maxRecDepth 20000
set_option maxHeartbeats 2000000
namespace Go.Ab
open Go.Proofs
noncomputable def F_24 (raw_ : GNode) (other_ : GNode) (y3 : GNode × GTape) (y4 : GNode × GTape) (x353 : Int) (x543 : Int) : Option (Fl Int (Sum Unit Bool)) :=
 bif decide (x543 ≤ x353) then jn (α := Fl Unit Bool) (chk (inb x543 [raw_, y3.1, y4.1, other_].length) ((F_16 ([raw_, y3.1, y4.1, other_].getD ((x543).toNat) default)).bind fun y562 => bif y562 then chk (inb x543 [raw_, y3.1, y4.1, other_].length) ((F_6 ([raw_, y3.1, y4.1, other_].getD ((x353).toNat) default) ([raw_, y3.1, y4.1, other_].getD ((x543).toNat) default)).bind fun y563 => chk (inb x543 [raw_, y3.1, y4.1, other_].length) ((F_b ([raw_, y3.1, y4.1, other_].getD ((x353).toNat) default) ([raw_, y3.1, y4.1, other_].getD ((x543).toNat) default)).bind fun y564 => bif (!(y563 == y564)) then some (.ex false) else some (.nx ()))) else some (.nx ()))) fun o => o.elim (fun j558 => chk (in64 (x543 + 1)) (some (.nx (x543 + 1)))) (fun r565 => some (.ex (.inr r565))) else some (.ex (.inl ()))
noncomputable def F_25 (raw_ : GNode) (other_ : GNode) (y3 : GNode × GTape) (y4 : GNode × GTape) (x353 : Int) : Option (Fl Int (Sum Unit Bool)) :=
 bif decide (x353 < ([raw_, y3.1, y4.1, other_].length : Int)) then jn (α := Fl Unit Bool) (chk (inb x353 [raw_, y3.1, y4.1, other_].length) ((F_16 ([raw_, y3.1, y4.1, other_].getD ((x353).toNat) default)).bind fun y492 => bif (!y492) then some (.nx ()) else (F_j ([raw_, y3.1, y4.1, other_].getD ((x353).toNat) default)).bind fun y517 => (F_w ([raw_, y3.1, y4.1, other_].getD ((x353).toNat) default)).bind fun y518 => bif (!decide (y517 = y518)) then some (.ex false) else (F_4 ([raw_, y3.1, y4.1, other_].getD ((x353).toNat) default)).bind fun y519 => (F_v ([raw_, y3.1, y4.1, other_].getD ((x353).toNat) default)).bind fun y520 => bif (!decide (y519 = y520)) then some (.ex false) else (F_r ([raw_, y3.1, y4.1, other_].getD ((x353).toNat) default)).bind fun y521 => (F_1g ([raw_, y3.1, y4.1, other_].getD ((x353).toNat) default)).bind fun y522 => bif (!decide (y521 = y522)) then some (.ex false) else (F_s ([raw_, y3.1, y4.1, other_].getD ((x353).toNat) default)).bind fun y523 => (F_1h ([raw_, y3.1, y4.1, other_].getD ((x353).toNat) default)).bind fun y524 => bif (!decide (y523 = y524)) then some (.ex false) else (loop (F_24 raw_ other_ y3 y4 x353) 0).bind fun r566 => Sum.elim (fun u567 => some (.nx ())) (fun u568 => some (.ex u568)) r566)) fun o => o.elim (fun j488 => chk (in64 (x353 + 1)) (some (.nx (x353 + 1)))) (fun r569 => some (.ex (.inr r569))) else some (.ex (.inl ()))
noncomputable def F_1q (tape_ : List Int) (raw_ : GNode) (other_ : GNode) : Option Bool :=
 (F_1i (GTape.mk tape_ 0)).bind fun y3 => (F_0 y3.2 4).bind fun y4 => (loop (F_25 raw_ other_ y3 y4) 0).bind fun r570 => Sum.elim (fun u571 => F_15.bind fun y574 => some y574) (fun u572 => some u572) r570
@[irreducible] def mc_4r : MC :=
 (.reg [oV 11 64,
 mo (.bin true .add (.t 64) (cI 1)) 65,
 oV 65 11])
@[irreducible] def mc_24 : MC :=
 (.seq (sR [oV 11 61,
 oV 9 62,
 mo (.bin false .leq (.t 61) (.t 62)) 63]
 (.cond (.t 63)
 .skip
 (.exit 2)))
 (.cut (.block 3
 (.seq (.regD [oV 8 66,
 oV 11 67,
 mo (.iad 5 (.t 66) (.t 67)) 68,
 mo (.ld (some 5) (.t 68)) 69,
 mo (.call (.f 11) [(.t 69)] [] []) 70,
 oV 70 71,
 gT 71 72 (.ld (some 5) (.t 10)),
 gT 71 73 (.mv (.t 8)),
 gT 71 74 (.mv (.t 11)),
 gT 71 75 (.iad 5 (.t 73) (.t 74)),
 gT 71 76 (.ld (some 5) (.t 75)),
 gT 71 77 (.call (.f 20) [(.t 72),(.t 76)] [] []),
 gT 71 78 (.ld (some 5) (.t 10)),
 gT 71 79 (.mv (.t 8)),
 gT 71 80 (.mv (.t 11)),
 gT 71 81 (.iad 5 (.t 79) (.t 80)),
 gT 71 82 (.ld (some 5) (.t 81)),
 gT 71 83 (.call (.f 21) [(.t 78),(.t 82)] [] []),
 gT 71 84 (.beq true (.t 77) (.t 83)),
 mo (.pick (.t 71) (.t 84) (.c (.bool false))) 85]
 [[],[],[0,1],[2],[3],[4,4],[5],[5],[5],[7,8,5],[9,5],[6,10,5,5],[5],[5],[5],[13,14,5],[15,5],[12,16,11,5],[11,17,5],[5,18]]
 [[],[],[0,1],[0,1,2],[0,1,2,3],[0,1,2,3,4],[0,1,2,3,4,5],[0,1,2,3,4,5],[0,1,2,3,4,5],[0,1,2,3,4,5,7,8],[0,1,2,3,4,5,7,8,9],[0,1,2,3,4,5,6,7,8,9,10],[0,1,2,3,4,5],[0,1,2,3,4,5],[0,1,2,3,4,5],[0,1,2,3,4,5,13,14],[0,1,2,3,4,5,13,14,15],[0,1,2,3,4,5,6,7,8,9,10,11,12,13,14,15,16],[0,1,2,3,4,5,6,7,8,9,10,11,12,13,14,15,16,17],[0,1,2,3,4,5,6,7,8,9,10,11,12,13,14,15,16,17,18]])
 (.cond (.t 85)
 (sR [mo (.mv (.c (.bool false))) 6]
 .ret)
 .skip)))
 mc_4r))
@[irreducible] def mc_4s : MC :=
 (.reg [oV 9 26,
 mo (.bin true .add (.t 26) (cI 1)) 27,
 oV 27 9])
@[irreducible] def mc_25 : MC :=
 (.seq (sR [oV 9 22,
 oV 8 23,
 mo (.len false (.t 23)) 24,
 mo (.bin false .lss (.t 22) (.t 24)) 25]
 (.cond (.t 25)
 .skip
 (.exit 0)))
 (.cut (.block 1
 (sR [oV 8 28,
 oV 9 29,
 mo (.iad 5 (.t 28) (.t 29)) 30,
 mo (.ld (some 5) (.t 30)) 31,
 mo (.alloc [(.int .i64 0),(.sl []),(.sl []),(.int .i64 0),(.int .i64 0)]) 10,
 ⟨.st 5 (.t 10) (.t 31), none, none⟩]
 (.seq (.seq (.note (.gc [8,9,10,41,42,43,44,45,48,49,50,51,52,55,56,57,58,59,72,73,74,75,76,77,78,79,80,81,82,83,84]) (.reg [mo (.ld (some 5) (.t 10)) 32,
 mo (.call (.f 11) [(.t 32)] [] []) 33,
 mo (.not (.t 33)) 34]))
 (.cond (.t 34)
 (.exit 1)
 .skip))
 (.seq (.seq (.regD [mo (.ld (some 5) (.t 10)) 35,
 mo (.call (.f 12) [(.t 35)] [] []) 36,
 mo (.ld (some 5) (.t 10)) 37,
 mo (.call (.f 13) [(.t 37)] [] []) 38,
 mo (.bin false .neq (.t 36) (.t 38)) 39,
 oV 39 40,
 gF 40 41 (.ld (some 5) (.t 10)),
 gF 40 42 (.call (.f 14) [(.t 41)] [] []),
 gF 40 43 (.ld (some 5) (.t 10)),
 gF 40 44 (.call (.f 15) [(.t 43)] [] []),
 gF 40 45 (.bin false .neq (.t 42) (.t 44)),
 mo (.pick (.t 40) (.c (.bool true)) (.t 45)) 46,
 oV 46 47,
 gF 47 48 (.ld (some 5) (.t 10)),
 gF 47 49 (.call (.f 16) [(.t 48)] [] []),
 gF 47 50 (.ld (some 5) (.t 10)),
 gF 47 51 (.call (.f 17) [(.t 50)] [] []),
 gF 47 52 (.bin false .neq (.t 49) (.t 51)),
 mo (.pick (.t 47) (.c (.bool true)) (.t 52)) 53,
 oV 53 54,
 gF 54 55 (.ld (some 5) (.t 10)),
 gF 54 56 (.call (.f 18) [(.t 55)] [] []),
 gF 54 57 (.ld (some 5) (.t 10)),
 gF 54 58 (.call (.f 19) [(.t 57)] [] []),
 gF 54 59 (.bin false .neq (.t 56) (.t 58)),
 mo (.pick (.t 54) (.c (.bool true)) (.t 59)) 60]
 [[],[0],[],[2,1],[1,3],[4,3],[5],[6,5,5],[5],[8,7,5],[7,9,5],[5,10],[11,9],[12],[13,12,12],[12],[15,14,12],[14,16,12],[12,17],[18,16],[19],[20,19,19],[19],[22,21,19],[21,23,19],[19,24]]
 [[],[0],[],[0,1,2],[0,1,2,3],[0,1,2,3,4],[0,1,2,3,4,5],[0,1,2,3,4,5,6],[0,1,2,3,4,5],[0,1,2,3,4,5,6,7,8],[0,1,2,3,4,5,6,7,8,9],[0,1,2,3,4,5,6,7,8,9,10],[0,1,2,3,4,5,6,7,8,9,10,11],[0,1,2,3,4,5,6,7,8,9,10,11,12],[0,1,2,3,4,5,6,7,8,9,10,11,12,13],[0,1,2,3,4,5,6,7,8,9,10,11,12],[0,1,2,3,4,5,6,7,8,9,10,11,12,13,14,15],[0,1,2,3,4,5,6,7,8,9,10,11,12,13,14,15,16],[0,1,2,3,4,5,6,7,8,9,10,11,12,13,14,15,16,17],[0,1,2,3,4,5,6,7,8,9,10,11,12,13,14,15,16,17,18],[0,1,2,3,4,5,6,7,8,9,10,11,12,13,14,15,16,17,18,19],[0,1,2,3,4,5,6,7,8,9,10,11,12,13,14,15,16,17,18,19,20],[0,1,2,3,4,5,6,7,8,9,10,11,12,13,14,15,16,17,18,19],[0,1,2,3,4,5,6,7,8,9,10,11,12,13,14,15,16,17,18,19,20,21,22],[0,1,2,3,4,5,6,7,8,9,10,11,12,13,14,15,16,17,18,19,20,21,22,23],[0,1,2,3,4,5,6,7,8,9,10,11,12,13,14,15,16,17,18,19,20,21,22,23,24]])
 (.cond (.t 60)
 (sR [mo (.mv (.c (.bool false))) 6]
 .ret)
 .skip))
 (sR [oC 0 11]
 (.block 2
 (.loop mc_24)))))))
 mc_4s))
def mc_1q : MC :=
 (sR [mo (.box (.t 1)) 4,
 mo (.box (.t 2)) 5,
 mo (.mv (.c (.bool false))) 6]
 (sR [oV 0 12,
 mo (.build [(.sl []),(.int .i64 0)] [(0,1,(.t 12))]) 13,
 mo (.box (.t 13)) 14,
 oV 14 7]
 (.seq (.regD [mo (.ld (some 5) (.t 4)) 15,
 oV 7 16,
 mo (.call (.f 9) [(.t 16)] [14] []) 17,
 oV 7 18,
 mo (.call (.f 10) [(.t 18), (cI 4)] [14] []) 19,
 mo (.ld (some 5) (.t 5)) 20,
 mo (.bslice 5 [(.t 15),(.t 17),(.t 19),(.t 20)]) 21,
 oV 21 8]
 [[],[],[1],[],[3,2],[],[0,2,4,5],[6,4,0,1,2,3,4,5,6]]
 [[],[],[1],[],[1,2,3],[],[0,1,2,3,4,5],[0,1,2,3,4,5,6]])
 (.seq (sR [oC 0 9]
 (.block 0
 (.loop mc_25)))
 (sR [mo (.call (.f 22) [] [] []) 86,
 oV 86 6]
 .ret)))))
theorem Wq_1q {tape_ : List Int} {raw_ other_ : GNode} : Cn Tryz.prog 3 [.sl (tape_.map (V.int .i64)), GNode.v raw_, GNode.v other_] [] (F_1q tape_ raw_ other_) (fun z => .bool z) (fun z => []) := fun Q Q' h hQ => by
 refine acallM mc_1q [] [] [.t 6] Tryz.func3 fun M => ?_
 unfold F_1q at h
 unfold mc_1q
 replace h := tY h
 refine tB ?_
 repeat' (first
 | (exact tZ)
 | ((first | refine oblg h ?_ | refine roomG h ?_ | refine inbG h ?_ | refine fork h ?_ ?_ | refine forkS h ?_ ?_) <;> clear h <;> intro hc h)
 | (obtain ⟨y, hy, h⟩ := h; (first | (with_reducible first | have hw := Wq_16.w hy | have hw := Wq_j.w hy | have hw := Wq_w.w hy | have hw := W_4 hy | have hw := Wq_v.w hy | have hw := Wq_r.w hy | have hw := Wq_1g.w hy | have hw := Wq_s.w hy | have hw := Wq_1h.w hy | have hw := W_6 hy | have hw := W_b hy | have hw := Wq_15.w hy) | have hw := acall_swe 1000 14 (Wq_1i.w hy) | have hw := acall_swe 1000 14 (W_0 hy)); replace hw := tY hw; (first | refine M.sC hw ?_ | refine M.sD hw ?_); clear hw hy; refine tB ?_)
 | (refine M.jnE (b := mc_4r) [8,9,10,11,41,42,43,44,45,48,49,50,51,52,55,56,57,58,59] [10,21] (fun y => []) (fun y => []) [] h ?_ ?_ <;> first
 | (clear h; intro Qn K hK1 h; replace h := tY h; refine tB ?_)
  |(clear h; intro y h; unfold mc_4r; replace h := tY h; refine tB ?_))
 | (refine M.wh1 (b := mc_24) [8,9,10,41,42,43,44,45,48,49,50,51,52,55,56,57,58,59] [10,21] (fun x => [(11, .int .i64 x)]) (fun x => []) [] h ?_ ?_ <;> first
 | (clear h; intro x Qn K hK2 h; unfold F_24 at h; unfold mc_24; replace h := tY h; refine tB ?_)
  |(clear h; (try refine tB ?_); exact tU0; done))
 | (refine M.jnE (b := mc_4s) [8,9] [21] (fun y => []) (fun y => []) [] h ?_ ?_ <;> first
 | (clear h; intro Qn K hK3 h; replace h := tY h; refine tB ?_)
  |(clear h; intro y h; unfold mc_4s; replace h := tY h; refine tB ?_))
 | (refine M.wh1 (b := mc_25) [8] [21] (fun x => [(9, .int .i64 x)]) (fun x => []) [] h ?_ ?_ <;> first
 | (clear h; intro x Qn K hK4 h; unfold F_25 at h; unfold mc_25; replace h := tY h; refine tB ?_)
  |(clear h; (try refine tB ?_); exact tU0; done))
 | ((first | refine hK1 _ ?_ | refine hK2 _ ?_ | refine hK3 _ ?_ | refine hK4 _ ?_); (try refine tB ?_); refine ⟨_, h, ?_⟩; exact tU0; done)
 | (refine tE4 GNode.v ?_ (by simp only [← GNode.v_eq]; repeat (first | exact IsMap.nil | apply IsMap.cons)); (first | rw [M.lok_compU] | rw [M.lokD_compU] | (simp only [GNode.v_eq, V.cells]; first | rw [M.lok_comp] | rw [M.lokD_comp])); refine tB ?_)
 | (refine tE4 GNode.v ?_; (first | rw [M.lok_compU] | rw [M.lokD_compU] | (simp only [V.cells]; first | rw [M.lok_comp] | rw [M.lokD_comp])); refine tB ?_)
 | (refine tE ?_; (first | rw [M.lok_compU] | rw [M.lokD_compU]); refine tB ?_)
 | (refine tA ?_)
 | fail)
end Go.Ab
