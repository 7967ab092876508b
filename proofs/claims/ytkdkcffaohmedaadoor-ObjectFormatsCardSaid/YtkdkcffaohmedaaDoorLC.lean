/- What the functions of this seat that lie on the laws' road compute (part LC), each for every input. By AI agents. -/
import Derived.Test.YtkdkcffaohmedaaDoorProg
import Derived.KernelRfl
import Derived.Test.YtkdkcffaohmedaaDoorAbFun
import Derived.Test.YtkdkcffaohmedaaDoorLB
set_option linter.all false
set_option linter.all false
set_option maxRecDepth 20000
set_option maxHeartbeats 2000000
namespace Go.Ab
open Go.Proofs
def F_u (o_ : GObject) : Option Bool :=
 grp ((decide ((o_.Data.length : Int) ≤ 3000) && decide ((o_.Items.length : Int) ≤ 80))) fun b4 => grp ((b4 && decide ((o_.Parents.length : Int) ≤ 20))) fun b5 => grp ((b5 && decide ((o_.Author.length : Int) ≤ 100))) fun b6 => some b6
@[irreducible] def mg_3b : List MOp := [gT 7 8 (.fad 3 (.t 1)),
 gT 7 9 (.ld none (.t 8)),
 gT 7 10 (.len false (.t 9)),
 gT 7 11 (.bin false .leq (.t 10) (cI 80)),
 mo (.pick (.t 7) (.t 11) (.c (.bool false))) 12]
@[irreducible] def mg_3c : List MOp := [gT 13 14 (.fad 5 (.t 1)),
 gT 13 15 (.ld none (.t 14)),
 gT 13 16 (.len false (.t 15)),
 gT 13 17 (.bin false .leq (.t 16) (cI 20)),
 mo (.pick (.t 13) (.t 17) (.c (.bool false))) 18]
@[irreducible] def mg_3d : List MOp := [gT 19 20 (.fad 6 (.t 1)),
 gT 19 21 (.ld none (.t 20)),
 gT 19 22 (.len true (.t 21)),
 gT 19 23 (.bin false .leq (.t 22) (cI 100)),
 mo (.pick (.t 19) (.t 23) (.c (.bool false))) 24]
def mc_u : MC :=
 (sR [mo (.box (.t 0)) 1,
 mo (.mv (.c (.bool false))) 2]
 (.seq (.regI [.op (oF 2 1 3),
 .op (oL 3 4),
 .op (mo (.len false (.t 4)) 5),
 .op (mo (.bin false .leq (.t 5) (cI 3000)) 6),
 .op (oV 6 7),
 .grp mg_3b,
 .op (oV 12 13),
 .grp mg_3c,
 .op (oV 18 19),
 .grp mg_3d,
 .op (oV 24 2)])
 .ret))
theorem Wq_u {o_ : GObject} : Cn Tryd.prog 13 [GObject.v o_] [] (F_u o_) (fun z => .bool z) (fun z => []) := fun Q Q' h hQ => by
 refine acallM mc_u [] [] [.t 2] Tryd.func13 fun M => ?_
 unfold F_u at h
 unfold mc_u
 replace h := tY h
 refine tB ?_
 repeat' (first
 | (exact tZ)
 | ((first | refine oblg h ?_ | refine roomG h ?_ | refine fork h ?_ ?_ | refine forkS h ?_ ?_) <;> clear h <;> intro hc h)
 | (refine M.gv1 (ms := mg_3d) 24 [20,21,22,23] h ?_ ?_ <;> first
 | (clear h; intro K hK1; unfold mg_3d; refine tB ?_)
 | (clear h; intro b h; replace h := tY h; refine tB ?_))
 | (refine M.gv1 (ms := mg_3c) 18 [14,15,16,17] h ?_ ?_ <;> first
 | (clear h; intro K hK2; unfold mg_3c; refine tB ?_)
 | (clear h; intro b h; replace h := tY h; refine tB ?_))
 | (refine M.gv1 (ms := mg_3b) 12 [8,9,10,11] h ?_ ?_ <;> first
 | (clear h; intro K hK3; unfold mg_3b; refine tB ?_)
 | (clear h; intro b h; replace h := tY h; refine tB ?_))
 | ((first | refine hK1 _ ?_ | refine hK2 _ ?_ | refine hK3 _ ?_); exact tU; done)
 | (refine bfork (fun hc => ?_) (fun hc => ?_))
 | (refine tE ?_; (first | rw [M.lok_compU] | rw [M.lokD_compU]); refine tB ?_)
 | (refine tA ?_)
 | fail)
noncomputable def F_1g (raw_ : GObject) (other_ : GObject) (y3 : GObject × GTape) (y4 : GObject × GTape) (x253 : Int) (x383 : Int) : Option (Fl Int (Sum Unit Bool)) :=
 bif decide (x383 ≤ x253) then jn (α := Fl Unit Bool) (chk (inb x383 [raw_, y3.1, y4.1, other_].length) ((F_u ([raw_, y3.1, y4.1, other_].getD ((x383).toNat) default)).bind fun y402 => bif y402 then chk (inb x253 [raw_, y3.1, y4.1, other_].length) (chk (inb x383 [raw_, y3.1, y4.1, other_].length) ((F_l ([raw_, y3.1, y4.1, other_].getD ((x253).toNat) default) ([raw_, y3.1, y4.1, other_].getD ((x383).toNat) default)).bind fun y403 => chk (inb x253 [raw_, y3.1, y4.1, other_].length) (chk (inb x383 [raw_, y3.1, y4.1, other_].length) ((F_p ([raw_, y3.1, y4.1, other_].getD ((x253).toNat) default) ([raw_, y3.1, y4.1, other_].getD ((x383).toNat) default)).bind fun y404 => bif (!(y403 == y404)) then some (.ex false) else some (.nx ()))))) else some (.nx ()))) fun o => o.elim (fun j398 => chk (in64 (x383 + 1)) (some (.nx (x383 + 1)))) (fun r405 => some (.ex (.inr r405))) else some (.ex (.inl ()))
noncomputable def F_1h (raw_ : GObject) (other_ : GObject) (y3 : GObject × GTape) (y4 : GObject × GTape) (x253 : Int) : Option (Fl Int (Sum Unit Bool)) :=
 bif decide (x253 < ([raw_, y3.1, y4.1, other_].length : Int)) then jn (α := Fl Unit Bool) (chk (inb x253 [raw_, y3.1, y4.1, other_].length) ((F_u ([raw_, y3.1, y4.1, other_].getD ((x253).toNat) default)).bind fun y352 => bif (!y352) then some (.nx ()) else chk (inb x253 [raw_, y3.1, y4.1, other_].length) ((F_8 ([raw_, y3.1, y4.1, other_].getD ((x253).toNat) default)).bind fun y354 => chk (inb x253 [raw_, y3.1, y4.1, other_].length) ((F_o ([raw_, y3.1, y4.1, other_].getD ((x253).toNat) default)).bind fun y356 => bif (!decide (y354.2 = y356.2)) then some (.ex false) else bif (!decide (y354.1 = y356.1)) then some (.ex false) else chk (inb x253 [raw_, y3.1, y4.1, other_].length) ((F_a ([raw_, y3.1, y4.1, other_].getD ((x253).toNat) default)).bind fun y363 => chk (inb x253 [raw_, y3.1, y4.1, other_].length) ((F_c ([raw_, y3.1, y4.1, other_].getD ((x253).toNat) default)).bind fun y364 => bif (!decide (y363 = y364)) then some (.ex false) else (loop (F_1g raw_ other_ y3 y4 x253) 0).bind fun r406 => Sum.elim (fun u407 => some (.nx ())) (fun u408 => some (.ex u408)) r406)))))) fun o => o.elim (fun j348 => chk (in64 (x253 + 1)) (some (.nx (x253 + 1)))) (fun r409 => some (.ex (.inr r409))) else some (.ex (.inl ()))
noncomputable def F_15 (tape_ : List Int) (raw_ : GObject) (other_ : GObject) : Option Bool :=
 (F_e (GTape.mk tape_ 0)).bind fun y3 => (F_e y3.2).bind fun y4 => (loop (F_1h raw_ other_ y3 y4) 0).bind fun r410 => Sum.elim (fun u411 => F_q.bind fun y414 => some y414) (fun u412 => some u412) r410
@[irreducible] def mc_3e : MC :=
 (.reg [oV 14 79,
 mo (.bin true .add (.t 79) (cI 1)) 80,
 oV 80 14])
@[irreducible] def mc_1g : MC :=
 (.seq (sR [oV 14 76,
 oV 9 77,
 mo (.bin false .leq (.t 76) (.t 77)) 78]
 (.cond (.t 78)
 .skip
 (.exit 2)))
 (.cut (.block 3
 (.seq (.regD [oV 8 81,
 oV 14 82,
 mo (.iad 8 (.t 81) (.t 82)) 83,
 mo (.ld (some 8) (.t 83)) 84,
 mo (.call (.f 13) [(.t 84)] [] []) 85,
 oV 85 86,
 gT 86 87 (.mv (.t 8)),
 gT 86 88 (.mv (.t 9)),
 gT 86 89 (.iad 8 (.t 87) (.t 88)),
 gT 86 90 (.ld (some 8) (.t 89)),
 gT 86 91 (.mv (.t 8)),
 gT 86 92 (.mv (.t 14)),
 gT 86 93 (.iad 8 (.t 91) (.t 92)),
 gT 86 94 (.ld (some 8) (.t 93)),
 gT 86 95 (.call (.f 18) [(.t 90),(.t 94)] [] []),
 gT 86 96 (.mv (.t 8)),
 gT 86 97 (.mv (.t 9)),
 gT 86 98 (.iad 8 (.t 96) (.t 97)),
 gT 86 99 (.ld (some 8) (.t 98)),
 gT 86 100 (.mv (.t 8)),
 gT 86 101 (.mv (.t 14)),
 gT 86 102 (.iad 8 (.t 100) (.t 101)),
 gT 86 103 (.ld (some 8) (.t 102)),
 gT 86 104 (.call (.f 19) [(.t 99),(.t 103)] [] []),
 gT 86 105 (.beq true (.t 95) (.t 104)),
 mo (.pick (.t 86) (.t 105) (.c (.bool false))) 106]
 [[],[],[0,1],[2],[3],[4,4],[5],[5],[6,7,5],[8,5],[5],[5],[10,11,5],[12,5],[9,13,5,5],[5],[5],[15,16,5],[17,5],[5],[5],[19,20,5],[21,5],[18,22,14,5],[14,23,5],[5,24]]
 [[],[],[0,1],[0,1,2],[0,1,2,3],[0,1,2,3,4],[0,1,2,3,4,5],[0,1,2,3,4,5],[0,1,2,3,4,5,6,7],[0,1,2,3,4,5,6,7,8],[0,1,2,3,4,5],[0,1,2,3,4,5],[0,1,2,3,4,5,10,11],[0,1,2,3,4,5,10,11,12],[0,1,2,3,4,5,6,7,8,9,10,11,12,13],[0,1,2,3,4,5],[0,1,2,3,4,5],[0,1,2,3,4,5,15,16],[0,1,2,3,4,5,15,16,17],[0,1,2,3,4,5],[0,1,2,3,4,5],[0,1,2,3,4,5,19,20],[0,1,2,3,4,5,19,20,21],[0,1,2,3,4,5,6,7,8,9,10,11,12,13,14,15,16,17,18,19,20,21,22],[0,1,2,3,4,5,6,7,8,9,10,11,12,13,14,15,16,17,18,19,20,21,22,23],[0,1,2,3,4,5,6,7,8,9,10,11,12,13,14,15,16,17,18,19,20,21,22,23,24]])
 (.cond (.t 106)
 (sR [mo (.mv (.c (.bool false))) 6]
 .ret)
 .skip)))
 mc_3e))
@[irreducible] def mc_3f : MC :=
 (.reg [oV 9 29,
 mo (.bin true .add (.t 29) (cI 1)) 30,
 oV 30 9])
@[irreducible] def mc_1h : MC :=
 (.seq (sR [oV 9 25,
 oV 8 26,
 mo (.len false (.t 26)) 27,
 mo (.bin false .lss (.t 25) (.t 27)) 28]
 (.cond (.t 28)
 .skip
 (.exit 0)))
 (.cut (.block 1
 (.seq (sR [oV 8 31,
 oV 9 32,
 mo (.iad 8 (.t 31) (.t 32)) 33,
 mo (.ld (some 8) (.t 33)) 34,
 mo (.call (.f 13) [(.t 34)] [] []) 35,
 mo (.not (.t 35)) 36]
 (.cond (.t 36)
 (.exit 1)
 .skip))
 (.seq (.note (.gc [8,9,57,58,59,60,61,64,65,66,67,68,69,70,71,72,73,74,87,88,89,90,91,92,93,94,95,96,97,98,99,100,101,102,103,104,105]) (.reg [oV 8 38,
 oV 9 39,
 mo (.iad 8 (.t 38) (.t 39)) 40,
 mo (.ld (some 8) (.t 40)) 41,
 mo (.call (.f 14) [(.t 41)] [] []) 42,
 oV 42 37,
 mo (.ext 0 (.t 37)) 43,
 mo (.ext 1 (.t 37)) 44,
 oV 43 10,
 oV 44 11]))
 (.seq (.note (.gc [8,9,10,11,57,58,59,60,61,64,65,66,67,68,69,70,71,72,73,74,87,88,89,90,91,92,93,94,95,96,97,98,99,100,101,102,103,104,105]) (.reg [oV 8 46,
 oV 9 47,
 mo (.iad 8 (.t 46) (.t 47)) 48,
 mo (.ld (some 8) (.t 48)) 49,
 mo (.call (.f 15) [(.t 49)] [] []) 50,
 oV 50 45,
 mo (.ext 0 (.t 45)) 51,
 mo (.ext 1 (.t 45)) 52,
 oV 51 12,
 oV 52 13]))
 (.seq (.seq (.note (.gc [8,9,10,11,12,13,57,58,59,60,61,64,65,66,67,68,69,70,71,72,73,74,87,88,89,90,91,92,93,94,95,96,97,98,99,100,101,102,103,104,105]) (.regD [oV 11 53,
 oV 13 54,
 mo (.bin false .neq (.t 53) (.t 54)) 55,
 oV 55 56,
 gF 56 57 (.mv (.t 10)),
 gF 56 58 (.b2s (.t 57)),
 gF 56 59 (.mv (.t 12)),
 gF 56 60 (.b2s (.t 59)),
 gF 56 61 (.bin false .neq (.t 58) (.t 60)),
 mo (.pick (.t 56) (.c (.bool true)) (.t 61)) 62,
 oV 62 63,
 gF 63 64 (.mv (.t 8)),
 gF 63 65 (.mv (.t 9)),
 gF 63 66 (.iad 8 (.t 64) (.t 65)),
 gF 63 67 (.ld (some 8) (.t 66)),
 gF 63 68 (.call (.f 16) [(.t 67)] [] []),
 gF 63 69 (.mv (.t 8)),
 gF 63 70 (.mv (.t 9)),
 gF 63 71 (.iad 8 (.t 69) (.t 70)),
 gF 63 72 (.ld (some 8) (.t 71)),
 gF 63 73 (.call (.f 17) [(.t 72)] [] []),
 gF 63 74 (.bin false .neq (.t 68) (.t 73)),
 mo (.pick (.t 63) (.c (.bool true)) (.t 74)) 75]
 [[],[],[0,1],[2],[3],[4,3],[3],[6,3],[5,7,3],[3,8],[9,3],[10],[10],[11,12,10],[13,10],[14,10,10],[10],[10],[16,17,10],[18,10],[19,15,10],[15,20,10],[10,21]]
 [[],[],[0,1],[0,1,2],[0,1,2,3],[0,1,2,3,4],[0,1,2,3],[0,1,2,3,6],[0,1,2,3,4,5,6,7],[0,1,2,3,4,5,6,7,8],[0,1,2,3,4,5,6,7,8,9],[0,1,2,3,4,5,6,7,8,9,10],[0,1,2,3,4,5,6,7,8,9,10],[0,1,2,3,4,5,6,7,8,9,10,11,12],[0,1,2,3,4,5,6,7,8,9,10,11,12,13],[0,1,2,3,4,5,6,7,8,9,10,11,12,13,14],[0,1,2,3,4,5,6,7,8,9,10],[0,1,2,3,4,5,6,7,8,9,10],[0,1,2,3,4,5,6,7,8,9,10,16,17],[0,1,2,3,4,5,6,7,8,9,10,16,17,18],[0,1,2,3,4,5,6,7,8,9,10,11,12,13,14,15,16,17,18,19],[0,1,2,3,4,5,6,7,8,9,10,11,12,13,14,15,16,17,18,19,20],[0,1,2,3,4,5,6,7,8,9,10,11,12,13,14,15,16,17,18,19,20,21]]))
 (.cond (.t 75)
 (sR [mo (.mv (.c (.bool false))) 6]
 .ret)
 .skip))
 (sR [oC 0 14]
 (.block 2
 (.loop mc_1g))))))))
 mc_3f))
def mc_15 : MC :=
 (sR [mo (.box (.t 1)) 4,
 mo (.box (.t 2)) 5,
 mo (.mv (.c (.bool false))) 6]
 (sR [oV 0 15,
 mo (.build [(.sl []),(.int .i64 0)] [(0,1,(.t 15))]) 16,
 mo (.box (.t 16)) 17,
 oV 17 7]
 (.seq (.regD [mo (.ld (some 8) (.t 4)) 18,
 oV 7 19,
 mo (.call (.f 12) [(.t 19)] [17] []) 20,
 oV 7 21,
 mo (.call (.f 12) [(.t 21)] [17] []) 22,
 mo (.ld (some 8) (.t 5)) 23,
 mo (.bslice 8 [(.t 18),(.t 20),(.t 22),(.t 23)]) 24,
 oV 24 8]
 [[],[],[1],[],[3,2],[],[0,2,4,5],[6,4,0,1,2,3,4,5,6]]
 [[],[],[1],[],[1,2,3],[],[0,1,2,3,4,5],[0,1,2,3,4,5,6]])
 (.seq (sR [oC 0 9]
 (.block 0
 (.loop mc_1h)))
 (sR [mo (.call (.f 11) [] [] []) 107,
 oV 107 6]
 .ret)))))
theorem Wq_15 {tape_ : List Int} {raw_ other_ : GObject} : Cn Tryd.prog 4 [.sl (tape_.map (V.int .i64)), GObject.v raw_, GObject.v other_] [] (F_15 tape_ raw_ other_) (fun z => .bool z) (fun z => []) := fun Q Q' h hQ => by
 refine acallM mc_15 [] [] [.t 6] Tryd.func4 fun M => ?_
 unfold F_15 at h
 unfold mc_15
 replace h := tY h
 refine tB ?_
 repeat' (first
 | (exact tZ)
 | ((first | refine oblg h ?_ | refine roomG h ?_ | refine inbG h ?_ | refine fork h ?_ ?_ | refine forkS h ?_ ?_) <;> clear h <;> intro hc h)
 | (obtain ⟨y, hy, h⟩ := h; (first | (with_reducible first | have hw := Wq_u.w hy | have hw := Wq_8.w hy | have hw := Wq_o.w hy | have hw := Wq_a.w hy | have hw := Wq_c.w hy | have hw := Wq_l.w hy | have hw := Wq_p.w hy | have hw := Wq_q.w hy) | have hw := acall_swe 1000 17 (Wq_e.w hy)); replace hw := tY hw; (first | refine M.sC hw ?_ | refine M.sD hw ?_); clear hw hy; refine tB ?_)
 | (refine M.jnE (b := mc_3e) [8,9,14,57,58,59,60,61,64,65,66,67,68,69,70,71,72,73,74] [24] (fun y => []) (fun y => []) [] h ?_ ?_ <;> first
 | (clear h; intro Qn K hK1 h; replace h := tY h; refine tB ?_)
  |(clear h; intro y h; unfold mc_3e; replace h := tY h; refine tB ?_))
 | (refine M.wh1 (b := mc_1g) [8,9,57,58,59,60,61,64,65,66,67,68,69,70,71,72,73,74] [24] (fun x => [(14, .int .i64 x)]) (fun x => []) [] h ?_ ?_ <;> first
 | (clear h; intro x Qn K hK2 h; unfold F_1g at h; unfold mc_1g; replace h := tY h; refine tB ?_)
  |(clear h; (try refine tB ?_); exact tU0; done))
 | (refine M.jnE (b := mc_3f) [8,9] [24] (fun y => []) (fun y => []) [] h ?_ ?_ <;> first
 | (clear h; intro Qn K hK3 h; replace h := tY h; refine tB ?_)
  |(clear h; intro y h; unfold mc_3f; replace h := tY h; refine tB ?_))
 | (refine M.wh1 (b := mc_1h) [8] [24] (fun x => [(9, .int .i64 x)]) (fun x => []) [] h ?_ ?_ <;> first
 | (clear h; intro x Qn K hK4 h; unfold F_1h at h; unfold mc_1h; replace h := tY h; refine tB ?_)
  |(clear h; (try refine tB ?_); exact tU0; done))
 | ((first | refine hK1 _ ?_ | refine hK2 _ ?_ | refine hK3 _ ?_ | refine hK4 _ ?_); (try refine tB ?_); refine ⟨_, h, ?_⟩; exact tU0; done)
 | (refine tE4 GObject.v ?_; (first | rw [M.lok_compU] | rw [M.lokD_compU] | (simp only [V.cells]; first | rw [M.lok_comp] | rw [M.lokD_comp])); refine tB ?_)
 | (refine tE ?_; (first | rw [M.lok_compU] | rw [M.lokD_compU]); refine tB ?_)
 | (refine tA ?_)
 | fail)
end Go.Ab
