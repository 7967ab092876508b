/- What the functions of this seat that lie on the laws' road compute (part LD), each for every input. By AI agents. -/
import Derived.Test.YtgbaffbfggjmgaaGreatDoorProg
import Derived.KernelRfl
import Derived.Test.YtgbaffbfggjmgaaGreatDoorAbFun
import Derived.Test.YtgbaffbfggjmgaaGreatDoorLC
set_option linter.all false
set_option linter.all false
set_option maxRecDepth 20000
set_option maxHeartbeats 2000000
namespace Go.Ab
open Go.Proofs
noncomputable def F_1h (tape_ : List Int) : Option Bool :=
 (F_2 (GTape.mk tape_ 0) 5).bind fun y3 => (F_2 y3.2 5).bind fun y4 => (F_r y3.1).bind fun y6 => (F_r y4.1).bind fun y8 => (F_v y6.1).bind fun y10 => grp ((decide (y6.2 = 0) && decide (y8.2 = 0))) fun b19 => grp ((b19 && decide (y10.2 = 0))) fun b20 => jn (α := Bool) (bif b20 then (F_e y10.1 y3.1).bind fun y22 => some y22 else some false) fun j23 => jn (α := Bool) (bif j23 then (F_e y3.1 y4.1).bind fun y25 => some (decide (y6.1 = y8.1) == y25) else some false) fun j26 => jn (α := Bool) (bif j26 then F_16.bind fun y28 => some y28 else some false) fun j29 => some j29
@[irreducible] def mg_3i : List MOp := [gT 36 37 (.mv (.t 9)),
 gT 36 38 (.bin false .eql (.t 37) (cI 0)),
 mo (.pick (.t 36) (.t 38) (.c (.bool false))) 39]
@[irreducible] def mg_3j : List MOp := [gT 40 41 (.mv (.t 11)),
 gT 40 42 (.bin false .eql (.t 41) (cI 0)),
 mo (.pick (.t 40) (.t 42) (.c (.bool false))) 43]
@[irreducible] def mg_3k : List MOp := [gT 44 45 (.ld (some 5) (.t 10)),
 gT 44 46 (.ld (some 5) (.t 4)),
 gT 44 47 (.call (.f 21) [(.t 45),(.t 46)] [] []),
 mo (.pick (.t 44) (.t 47) (.c (.bool false))) 48]
@[irreducible] def mg_3l : List MOp := [gT 49 50 (.mv (.t 6)),
 gT 49 51 (.mv (.t 8)),
 gT 49 52 (.bin false .eql (.t 50) (.t 51)),
 gT 49 53 (.ld (some 5) (.t 4)),
 gT 49 54 (.ld (some 5) (.t 5)),
 gT 49 55 (.call (.f 21) [(.t 53),(.t 54)] [] []),
 gT 49 56 (.beq false (.t 52) (.t 55)),
 mo (.pick (.t 49) (.t 56) (.c (.bool false))) 57]
@[irreducible] def mg_3m : List MOp := [gT 58 59 (.call (.f 22) [] [] []),
 mo (.pick (.t 58) (.t 59) (.c (.bool false))) 60]
def mc_1h : MC :=
 (sR [mo (.mv (.c (.bool false))) 2]
 (sR [oV 0 12,
 mo (.build [(.sl []),(.int .i64 0)] [(0,1,(.t 12))]) 13,
 mo (.box (.t 13)) 14,
 oV 14 3]
 (sR [oV 3 15,
 mo (.call (.f 10) [(.t 15), (cI 5)] [14] []) 16,
 oV 3 17,
 mo (.call (.f 10) [(.t 17), (cI 5)] [14] []) 18,
 mo (.alloc [(.int .i64 0),(.sl []),(.sl []),(.int .i64 0),(.int .i64 0)]) 4,
 mo (.alloc [(.int .i64 0),(.sl []),(.sl []),(.int .i64 0),(.int .i64 0)]) 5,
 ⟨.st 5 (.t 4) (.t 16), none, none⟩,
 ⟨.st 5 (.t 5) (.t 18), none, none⟩]
 (.seq (.note (.gc [4,5,37,38,41,42,45,46,47,50,51,52,53,54,55,56,59]) (.reg [mo (.ld (some 5) (.t 4)) 20,
 mo (.call (.f 23) [(.t 20)] [] []) 21,
 oV 21 19,
 mo (.ext 0 (.t 19)) 22,
 mo (.ext 1 (.t 19)) 23,
 oV 22 6,
 oV 23 7]))
 (sR [mo (.ld (some 5) (.t 5)) 25,
 mo (.call (.f 23) [(.t 25)] [] []) 26,
 oV 26 24,
 mo (.ext 0 (.t 24)) 27,
 mo (.ext 1 (.t 24)) 28,
 oV 27 8,
 oV 28 9]
 (.seq (.note (.gc [4,5,6,7,8,9,37,38,41,42,45,46,47,50,51,52,53,54,55,56,59]) (.reg [oV 6 30,
 mo (.call (.f 27) [(.t 30)] [] []) 31,
 oV 31 29,
 mo (.ext 0 (.t 29)) 32,
 mo (.ext 1 (.t 29)) 33,
 mo (.alloc [(.int .i64 0),(.sl []),(.sl []),(.int .i64 0),(.int .i64 0)]) 10,
 ⟨.st 5 (.t 10) (.t 32), none, none⟩,
 oV 33 11]))
 (.seq (.regI [.op (oV 7 34),
 .op (mo (.bin false .eql (.t 34) (cI 0)) 35),
 .op (oV 35 36),
 .grp mg_3i,
 .op (oV 39 40),
 .grp mg_3j,
 .op (oV 43 44),
 .grp mg_3k,
 .op (oV 48 49),
 .grp mg_3l,
 .op (oV 57 58),
 .grp mg_3m,
 .op (oV 60 2)])
 .ret)))))))
theorem Wq_1h {tape_ : List Int} : Cn Tryz.prog 6 [.sl (tape_.map (V.int .i64))] [] (F_1h tape_) (fun z => .bool z) (fun z => []) := fun Q Q' h hQ => by
 refine acallM mc_1h [] [] [.t 2] Tryz.func6 fun M => ?_
 unfold F_1h at h
 unfold mc_1h
 replace h := tY h
 refine tB ?_
 repeat' (first
 | (exact tZ)
 | ((first | refine oblg h ?_ | refine roomG h ?_ | refine fork h ?_ ?_ | refine forkS h ?_ ?_) <;> clear h <;> intro hc h)
 | (obtain ⟨y, hy, h⟩ := h; (first | (with_reducible first | have hw := Wq_r.w hy | have hw := Wq_v.w hy | have hw := W_e hy | have hw := Wq_16.w hy) | have hw := acall_swe 1000 14 (W_2 hy)); replace hw := tY hw; (first | refine M.sC hw ?_ | refine M.sD hw ?_); clear hw hy; refine tB ?_)
 | (refine M.gj1 (ms := mg_3m) [] [] (fun y => [(60, .bool y)]) (fun y => []) h ?_ ?_ <;> first
 | (clear h; intro Qn K hK1 h; unfold mg_3m; replace h := tY h; refine tB ?_)
  |(clear h; intro y h; replace h := tY h; refine tB ?_))
 | (refine M.gj1 (ms := mg_3l) [] [] (fun y => [(57, .bool y)]) (fun y => []) h ?_ ?_ <;> first
 | (clear h; intro Qn K hK2 h; unfold mg_3l; replace h := tY h; refine tB ?_)
  |(clear h; intro y h; replace h := tY h; refine tB ?_))
 | (refine M.gj1 (ms := mg_3k) [4,5,6,8] [5,4] (fun y => [(48, .bool y)]) (fun y => []) h ?_ ?_ <;> first
 | (clear h; intro Qn K hK3 h; unfold mg_3k; replace h := tY h; refine tB ?_)
  |(clear h; intro y h; replace h := tY h; refine tB ?_))
 | (refine M.gv1 (ms := mg_3j) 43 [41,42] h ?_ ?_ <;> first
 | (clear h; intro K hK4; unfold mg_3j; refine tB ?_)
 | (clear h; intro b h; replace h := tY h; refine tB ?_))
 | (refine M.gv1 (ms := mg_3i) 39 [37,38] h ?_ ?_ <;> first
 | (clear h; intro K hK5; unfold mg_3i; refine tB ?_)
 | (clear h; intro b h; replace h := tY h; refine tB ?_))
 | ((first | refine hK1 _ ?_ | refine hK2 _ ?_ | refine hK3 _ ?_); (try refine tB ?_); refine ⟨_, h, ?_⟩; exact tU0; done)
 | ((first | refine hK4 _ ?_ | refine hK5 _ ?_); exact tU; done)
 | (refine bfork (fun hc => ?_) (fun hc => ?_))
 | (refine tE ?_; (first | rw [M.lok_compU] | rw [M.lokD_compU]); refine tB ?_)
 | (refine tA ?_)
 | fail)
end Go.Ab
