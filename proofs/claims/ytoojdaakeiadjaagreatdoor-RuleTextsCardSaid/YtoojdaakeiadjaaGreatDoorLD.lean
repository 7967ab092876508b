/- What the functions of this seat that lie on the laws' road compute (part LD), each for every input. By AI agents. -/
import Derived.Test.YtoojdaakeiadjaaGreatDoorProg
import Derived.KernelRfl
import Derived.Test.YtoojdaakeiadjaaGreatDoorAbFun
import Derived.Test.YtoojdaakeiadjaaGreatDoorLC
set_option linter.all false
set_option linter.all false
set_option maxRecDepth 20000
set_option maxHeartbeats 2000000
namespace Go.Ab
open Go.Proofs
noncomputable def F_1w (y4:(List GRule)×GTape) (k179:Int) (a180:List GRule) (x178:Unit):Option (Fl Unit Bool) :=
 (F_1o a180).bind fun y232=>bif (!y232) then some (.nx ()) else (F_14 a180).bind fun y234=>(F_13 a180).bind fun y236=>grp (((!decide (y234.2=y236.2))||(!decide (y234.1=y236.1)))) fun b241=>bif b241 then some (.ex false) else (F_1a a180 y4.1).bind fun y242=>(F_1t a180 y4.1).bind fun y243=>bif (!(y242==y243)) then some (.ex false) else (F_1a a180 a180).bind fun y244=>bif (!y244) then some (.ex false) else some (.nx ())
noncomputable def F_26 (tape_:List Int) (raw_:List GRule):Option Bool :=
 (F_4 (GTape.mk tape_ 0) 5).bind fun y3=>(F_1m y3.2 y3.1).bind fun y4=>(F_1n y4.2 y4.1).bind fun y111=>(forL (F_1w y4) [raw_,y4.1,y111.1] 0 ()).bind fun o=>o.elim (fun x245=>F_12.bind fun y248=>some y248) (fun r246=>some r246)
@[irreducible] def mg_5j:List MOp:=[gF 47 48 (.mv (.t 9)),
 gF 47 49 (.mv (.t 11)),
 gF 47 50 (.bin false .neq (.t 48) (.t 49)),
 mo (.pick (.t 47) (.c (.bool true)) (.t 50)) 51]
@[irreducible] def mc_1w:MC :=
 (sR [mo (.bin false .lss (.t 27) (.t 26)) 28]
 (.seq (.cond (.t 28)
 .skip
 (.exit 0))
 (.seq (.block 1
 (sR [mo (.iad 1 (.t 25) (.t 27)) 29,
 oL 29 30,
 oV 30 8]
 (.seq (sR [oV 8 31,
 mo (.call (.f 25) [(.t 31)] [] []) 32,
 mo (.not (.t 32)) 33]
 (.cond (.t 33)
 (.exit 1)
 .skip))
 (sR [oV 8 35,
 mo (.call (.f 26) [(.t 35)] [] []) 36,
 oV 36 34,
 mo (.ext 0 (.t 34)) 37,
 mo (.ext 1 (.t 34)) 38,
 oV 37 9,
 oV 38 10]
 (.seq (.note (.gc [6,8,9,10,25,26,27,48,49,50,53,54,55,56,57,58,59,62,63,64,65]) (.reg [oV 8 40,
 mo (.call (.f 9) [(.t 40)] [] []) 41,
 oV 41 39,
 mo (.ext 0 (.t 39)) 42,
 mo (.ext 1 (.t 39)) 43,
 oV 42 11,
 oV 43 12]))
 (.seq (.regI [.op (oV 10 44),
 .op (oV 12 45),
 .op (mo (.bin false .neq (.t 44) (.t 45)) 46),
 .op (oV 46 47),
 .grp mg_5j,
 .op (oV 51 52),
 .op (gF 52 53 (.mv (.t 8))),
 .op (gF 52 54 (.mv (.t 6))),
 .op (gF 52 55 (.call (.f 27) [(.t 53),(.t 54)] [] [])),
 .op (gF 52 56 (.mv (.t 8))),
 .op (gF 52 57 (.mv (.t 6))),
 .op (gF 52 58 (.call (.f 14) [(.t 56),(.t 57)] [] [])),
 .op (gF 52 59 (.beq true (.t 55) (.t 58))),
 .op (mo (.pick (.t 52) (.c (.bool true)) (.t 59)) 60),
 .op (oV 60 61),
 .op (gF 61 62 (.mv (.t 8))),
 .op (gF 61 63 (.mv (.t 8))),
 .op (gF 61 64 (.call (.f 27) [(.t 62),(.t 63)] [] [])),
 .op (gF 61 65 (.not (.t 64))),
 .op (mo (.pick (.t 61) (.c (.bool true)) (.t 65)) 66)])
 (.cond (.t 66)
 (sR [mo (.mv (.c (.bool false))) 4]
 .ret)
 .skip)))))))
 (.reg [mo (.bin true .add (.t 27) (cI 1)) 67,
 oV 67 27]))))
def mc_26:MC :=
 (sR [mo (.mv (.c (.bool false))) 4]
 (sR [oV 0 13,
 mo (.build [(.sl []),(.int .i64 0)] [(0,1,(.t 13))]) 14,
 mo (.box (.t 14)) 15,
 oV 15 5]
 (sR [oV 5 16,
 oV 5 17,
 mo (.call (.f 17) [(.t 17),(cI 5)] [15] []) 18,
 mo (.call (.f 10) [(.t 16),(.t 18)] [15] []) 19,
 oV 19 6]
 (.seq (.seq (.note (.gc [1,5,6,48,49,50,53,54,55,56,57,58,59,62,63,64,65]) (.reg [oV 1 20,
 oV 6 21,
 oV 5 22,
 oV 6 23,
 mo (.call (.f 24) [(.t 22),(.t 23)] [15] []) 24,
 mo (.bslice 1 [(.t 20),(.t 21),(.t 24)]) 25,
 mo (.len false (.t 25)) 26,
 oC 0 27]))
 (.block 0
 (.loop mc_1w)))
 (sR [mo (.call (.f 15) [] [] []) 68,
 oV 68 4]
 .ret)))))
theorem Wq_26 {tape_:List Int} {raw_:List GRule}:Cn Tryz.prog 7 [.sl (tape_.map (V.int .i64)),.sl (raw_.map GRule.v)] [] (F_26 tape_ raw_) (fun z=>.bool z) (fun z=>[]):=fun Q Q' h hQ=>by
 refine acallM mc_26 [] [] [.t 4] Tryz.func7 fun M=>?_
 unfold F_26 at h
 unfold mc_26
 replace h:=tY h
 refine tB ?_
 repeat' (first
 | (exact tZ)
 | ((first|refine oblg h ?_|refine roomG h ?_|refine fork h ?_ ?_|refine forkS h ?_ ?_)<;>clear h<;>intro hc h)
 | (obtain ⟨y,hy,h⟩:=h;(first|(with_reducible first|have hw:=Wq_1o.w hy|have hw:=Wq_14.w hy|have hw:=Wq_13.w hy|have hw:=Wq_1a.w hy|have hw:=Wq_1t.w hy|have hw:=Wq_12.w hy)|have hw:=acall_swe 1000 15 (Wq_4.w hy)|have hw:=acall_swe 1000 15 (Wq_1m.w hy)|have hw:=acall_swe 1000 15 (Wq_1n.w hy));replace hw:=tY hw;(first|refine M.sC hw ?_|refine M.sD hw ?_);clear hw hy;refine tB ?_)
 | (refine M.gv1 (ms:=mg_5j) 51 [48,49,50] h ?_ ?_<;>first
 | (clear h;intro K hK1;unfold mg_5j;refine tB ?_)
 | (clear h;intro b h;replace h:=tY h;refine tB ?_))
 | (refine M.for1 (b:=mc_1w) 27 [6,25,26] [25] (fun x=>[]) (fun x=>[]) [] h ?_ ?_ ?_<;>first
 | (clear h;intro k a x Qn K hK2 hkN2 ha2 h hf;skip;clear hf;have hkd:=kD hkN2;have hkB2:=kB hkN2;have hkI2:=kI (k:=k) (by (try simp only [List.length_cons,List.length_nil] at hkN2);omega);have hkd2:decide ((k:Int)<3)=true:=decide_eq_true (by simp only [List.length_cons,List.length_nil] at hkN2;omega);have hkr2:(0≤(k:Int)∧(k:Int)<3)=True:=eq_true (by simp only [List.length_cons,List.length_nil] at hkN2;omega);have hle2:=trivial;have hpt2:=trivial;unfold F_1w at h;unfold mc_1w;replace h:=tY h;refine tKA ha2 hkd hkN2 hkB2 hkI2 hkd2 hkr2 hle2 hpt2 ?_)
  |(clear h;intro x K h;replace h:=And.left (And.intro h trivial);unfold mc_1w;replace h:=tY h;refine tB ?_)
  |(clear h;(try refine tB ?_);exact tU0;done))
 | (simp only [ha2])
 | (refine hK1 _ ?_;exact tU;done)
 | (refine hK2 _ ?_;(try refine tB ?_);refine ⟨_,h,?_⟩;exact tU0;done)
 | (refine bfork (fun hc=>?_) (fun hc=>?_))
 | (refine tE5 (slV GRule.v) (by assumption) (by assumption) ?_;(first|rw [M.lok_compU]|rw [M.lokD_compU]|(simp only [slV,V.cells];first|rw [M.lok_comp]|rw [M.lokD_comp]));refine tB ?_)
 | (refine tE4 (slV GRule.v) ?_;(first|rw [M.lok_compU]|rw [M.lokD_compU]|(simp only [V.cells];first|rw [M.lok_comp]|rw [M.lokD_comp]));refine tB ?_)
 | (refine tE ?_;(first|rw [M.lok_compU]|rw [M.lokD_compU]);refine tB ?_)
 | (refine tA ?_)
 | fail)
end Go.Ab
