/- What the functions of this seat that lie on the laws' road compute (part LD), each for every input. By AI agents. -/
import Derived.Test.YtoojdaakeiadjaaGreatDoorProg
import Derived.KernelRfl
import Derived.Test.YtoojdaakeiadjaaGreatDoorAbFun
import Derived.Test.YtoojdaakeiadjaaGreatDoorLC
set_option linter.all false
set_option linter.all false
set_option maxRecDepth 20000
set_option maxHeartbeats 2000000
namespace Go.Ab
open Go.Proofs
noncomputable def F_1s (tape_:List Int):Option Bool :=
 (F_d (GTape.mk tape_ 0) 6).bind fun y3=>(F_1h y3.2 y3.1).bind fun y4=>(F_1m y4.1).bind fun y6=>(F_v y6.1).bind fun y8=>grp ((decide (y6.2=0)&&decide (y8.2=0))) fun b16=>jn (α:=Bool) (bif b16 then (F_1i y4.1 y8.1).bind fun y18=>some y18 else some false) fun j19=>jn (α:=Bool) (bif j19 then (F_1l y4.1 y8.1).bind fun y21=>some y21 else some false) fun j22=>jn (α:=Bool) (bif j22 then F_19.bind fun y24=>some y24 else some false) fun j25=>some j25
@[irreducible] def mg_3u:List MOp:=[gT 28 29 (.mv (.t 8)),
 gT 28 30 (.bin false .eql (.t 29) (cI 0)),
 mo (.pick (.t 28) (.t 30) (.c (.bool false))) 31]
@[irreducible] def mg_3v:List MOp:=[gT 32 33 (.mv (.t 4)),
 gT 32 34 (.mv (.t 7)),
 gT 32 35 (.call (.f 14) [(.t 33),(.t 34)] [] []),
 mo (.pick (.t 32) (.t 35) (.c (.bool false))) 36]
@[irreducible] def mg_3w:List MOp:=[gT 37 38 (.mv (.t 4)),
 gT 37 39 (.mv (.t 7)),
 gT 37 40 (.call (.f 27) [(.t 38),(.t 39)] [] []),
 mo (.pick (.t 37) (.t 40) (.c (.bool false))) 41]
@[irreducible] def mg_3x:List MOp:=[gT 42 43 (.call (.f 15) [] [] []),
 mo (.pick (.t 42) (.t 43) (.c (.bool false))) 44]
def mc_1s:MC :=
 (sR [mo (.mv (.c (.bool false))) 2]
 (sR [oV 0 9,
 mo (.build [(.sl []),(.int .i64 0)] [(0,1,(.t 9))]) 10,
 mo (.box (.t 10)) 11,
 oV 11 3]
 (sR [oV 3 12,
 oV 3 13,
 mo (.call (.f 17) [(.t 13),(cI 6)] [11] []) 14,
 mo (.call (.f 10) [(.t 12),(.t 14)] [11] []) 15,
 oV 15 4]
 (.seq (.note (.gc [4,29,30,33,34,35,38,39,40,43]) (.reg [oV 4 17,
 mo (.call (.f 26) [(.t 17)] [] []) 18,
 oV 18 16,
 mo (.ext 0 (.t 16)) 19,
 mo (.ext 1 (.t 16)) 20,
 oV 19 5,
 oV 20 6]))
 (sR [oV 5 22,
 mo (.call (.f 12) [(.t 22)] [] []) 23,
 oV 23 21,
 mo (.ext 0 (.t 21)) 24,
 mo (.ext 1 (.t 21)) 25,
 oV 24 7,
 oV 25 8]
 (.seq (.note (.gc [4,6,7,8,29,30,33,34,35,38,39,40,43]) (.regI [.op (oV 6 26),
 .op (mo (.bin false .eql (.t 26) (cI 0)) 27),
 .op (oV 27 28),
 .grp mg_3u,
 .op (oV 31 32),
 .grp mg_3v,
 .op (oV 36 37),
 .grp mg_3w,
 .op (oV 41 42),
 .grp mg_3x,
 .op (oV 44 2)]))
 .ret))))))
theorem Wq_1s {tape_:List Int}:Cn Tryz.prog 8 [.sl (tape_.map (V.int .i64))] [] (F_1s tape_) (fun z=>.bool z) (fun z=>[]):=fun Q Q' h hQ=>by
 refine acallM mc_1s [] [] [.t 2] Tryz.func8 fun M=>?_
 unfold F_1s at h
 unfold mc_1s
 replace h:=tY h
 refine tB ?_
 repeat' (first
 | (exact tZ)
 | ((first|refine oblg h ?_|refine roomG h ?_|refine fork h ?_ ?_|refine forkS h ?_ ?_)<;>clear h<;>intro hc h)
 | (obtain ⟨y,hy,h⟩:=h;(first|(with_reducible first|have hw:=Wq_1m.w hy|have hw:=Wq_v.w hy|have hw:=Wq_1i.w hy|have hw:=Wq_1l.w hy|have hw:=Wq_19.w hy)|have hw:=acall_swe 1000 11 (Wq_d.w hy)|have hw:=acall_swe 1000 11 (Wq_1h.w hy));replace hw:=tY hw;(first|refine M.sC hw ?_|refine M.sD hw ?_);clear hw hy;refine tB ?_)
 | (refine M.gj1 (ms:=mg_3x) [] [] (fun y=>[(44,.bool y)]) (fun y=>[]) h ?_ ?_<;>first
 | (clear h;intro Qn K hK1 h;unfold mg_3x;replace h:=tY h;refine tB ?_)
  |(clear h;intro y h;replace h:=tY h;refine tB ?_))
 | (refine M.gj1 (ms:=mg_3w) [] [] (fun y=>[(41,.bool y)]) (fun y=>[]) h ?_ ?_<;>first
 | (clear h;intro Qn K hK2 h;unfold mg_3w;replace h:=tY h;refine tB ?_)
  |(clear h;intro y h;replace h:=tY h;refine tB ?_))
 | (refine M.gj1 (ms:=mg_3v) [4,7] [] (fun y=>[(36,.bool y)]) (fun y=>[]) h ?_ ?_<;>first
 | (clear h;intro Qn K hK3 h;unfold mg_3v;replace h:=tY h;refine tB ?_)
  |(clear h;intro y h;replace h:=tY h;refine tB ?_))
 | (refine M.gv1 (ms:=mg_3u) 31 [29,30] h ?_ ?_<;>first
 | (clear h;intro K hK4;unfold mg_3u;refine tB ?_)
 | (clear h;intro b h;replace h:=tY h;refine tB ?_))
 | ((first|refine hK1 _ ?_|refine hK2 _ ?_|refine hK3 _ ?_);(try refine tB ?_);refine ⟨_,h,?_⟩;exact tU0;done)
 | (refine hK4 _ ?_;exact tU;done)
 | (refine bfork (fun hc=>?_) (fun hc=>?_))
 | (refine tE ?_;(first|rw [M.lok_compU]|rw [M.lokD_compU]);refine tB ?_)
 | (refine tA ?_)
 | fail)
end Go.Ab
