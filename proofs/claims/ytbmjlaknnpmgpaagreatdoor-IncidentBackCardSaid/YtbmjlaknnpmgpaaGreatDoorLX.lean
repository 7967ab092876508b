/- What the functions of this seat that lie on the laws' road compute (part LX), each for every input. By AI agents. -/
import Derived.Test.YtbmjlaknnpmgpaaGreatDoorLT
import Derived.Test.YtbmjlaknnpmgpaaGreatDoorLG
set_option linter.all false
set_option linter.all false
set_option maxRecDepth 20000
set_option maxHeartbeats 2000000
namespace Go.Ab
open Go.Proofs
noncomputable def F_1s (k83:Int) (a84:GSummary) (x82:Unit):Option (Fl Unit Bool) := (F_d a84).bind fun y105=>(F_7 y105).bind fun y106=>grp (((!decide (y106.2=0))||(!(decide (y106.1.Fingerprint=a84.Fingerprint)&&(decide (y106.1.Spots=a84.Spots)&&((y106.1.Public==a84.Public)&&(decide (y106.1.Readers=a84.Readers)&&(decide (y106.1.Since=a84.Since)&&(decide (y106.1.Severity.Level=a84.Severity.Level)&&(decide (y106.1.Severity.Worth=a84.Severity.Worth)&&(decide (y106.1.Severity.Audience=a84.Severity.Audience)&&(decide (y106.1.Severity.Score=a84.Severity.Score)&&((y106.1.Rotated==a84.Rotated)&&(y106.1.Dead==a84.Dead)))))))))))))) fun b108=>bif b108 then some (.ex false) else some (.nx ())
noncomputable def F_59 (raw_:GSummary) (l_:List Int):Option Bool := bif decide (600<(l_.length:Int)) then F_15.bind fun y4=>some y4 else (F_2j (GTape.mk l_ 0)).bind fun y7=>(F_3z y7.1).bind fun y8=>grp (((!decide (y8.2=0))&&(!decide (y8.2=2)))) fun b12=>bif b12 then some false else (forL F_1s [raw_,y8.1] 0 ()).bind fun o=>o.elim (fun x109=>F_15.bind fun y112=>some y112) (fun r110=>some r110)
@[irreducible] def mg_7w:List MOp:=[tV 25 26 6,gT 25 27 (.bin false .neq (.t 26) (cI 2)),pA 25 27 28]
@[irreducible] def mg_7x:List MOp:=[gF 43 44 (.ld (some 11) (.t 9)),gF 43 45 (.ld (some 11) (.t 8)),gF 43 46 (.eqs true [0,0,2,0,0,0,0,0,0,2,2] (.t 44) (.t 45)),pO 43 46 47]
@[irreducible] def mc_1s:MC := (sR [bC .lss 32 2 33] (.seq (.cond (.t 33) .skip (.exit 0)) (.seq (.block 1 (sR [mo (.aix (some 11) 11 2 (.t 31) (.t 32)) 34,mo (.alloc [(.int .u64 0),(.int .i64 0),(.bool false),(.int .i64 0),(.int .i64 0),(.int .i64 0),(.int .i64 0),(.int .i64 0),(.int .i64 0),(.bool false),(.bool false)]) 8,⟨.st 11 (.t 8) (.t 34),none,none⟩] (sR [lN 11 8 36,k1 16 36 37,k1 20 37 38,oV 38 35,xT 0 35 39,xT 1 35 40,mo (.alloc [(.int .u64 0),(.int .i64 0),(.bool false),(.int .i64 0),(.int .i64 0),(.int .i64 0),(.int .i64 0),(.int .i64 0),(.int .i64 0),(.bool false),(.bool false)]) 9,⟨.st 11 (.t 9) (.t 39),none,none⟩,oV 40 10] (.seq (.note (.gc [8,9,10,31,32,44,45,46]) (.regI [.op (oV 10 41),.op (bC .neq 41 0 42),.op (oV 42 43),.grp mg_7x])) (.cond (.t 47) (sR [mF 4] .ret) .skip))))) (.reg [aI 32 1 48,oV 48 32]))))
def mc_59:MC := (sR [bx 0 2,mF 4] (.seq (sR [oV 1 11,lE 11 12,bC .gtr 12 600 13] (.cond (.t 13) (sR [mo (.call (.f 7) [] [] []) 14,oV 14 4] .ret) .skip)) (sR [oV 1 16,mo (.build [(.sl []),(.int .i64 0)] [(0,1,(.t 16))]) 17,bx 17 18,mo (.call (.f 8) [(.t 18)] [18] []) 19,k1 14 19 20,oV 20 15,xT 0 15 21,xT 1 15 22,mo (.alloc [(.int .u64 0),(.int .i64 0),(.bool false),(.int .i64 0),(.int .i64 0),(.int .i64 0),(.int .i64 0),(.int .i64 0),(.int .i64 0),(.bool false),(.bool false)]) 5,⟨.st 11 (.t 5) (.t 21),none,none⟩,oV 22 6] (.seq (.seq (.note (.gc [2,5,6,26,27,44,45,46]) (.regI [.op (oV 6 23),.op (bC .neq 23 0 24),.op (oV 24 25),.grp mg_7w])) (.cond (.t 28) (sR [mF 4] .ret) .skip)) (.seq (sR [lN 11 2 29,lN 11 5 30,mo (.barr 11 [(.int .u64 0),(.int .i64 0),(.bool false),(.int .i64 0),(.int .i64 0),(.int .i64 0),(.int .i64 0),(.int .i64 0),(.int .i64 0),(.bool false),(.bool false),(.int .u64 0),(.int .i64 0),(.bool false),(.int .i64 0),(.int .i64 0),(.int .i64 0),(.int .i64 0),(.int .i64 0),(.int .i64 0),(.bool false),(.bool false)] [(.t 29),(.t 30)]) 31,oC 0 32] (.block 0 (.loop mc_1s))) (sR [mo (.call (.f 7) [] [] []) 49,oV 49 4] .ret))))))
instance Wq_law43_IncidentBack {raw_:GSummary} {l_:List Int}:WI (F_59 raw_ l_) Tryz.prog 4 [GSummary.v raw_,.sl (l_.map (V.int .i64))] [] (fun z=>.bool z) (fun z=>[]):=⟨fun Q Q' h hQ=>by
 refine acallM mc_59 [] [] [.t 4] Tryz.func4 fun M=>?_
 unfold F_59 at h
 unfold mc_59
 replace h:=tY h
 refine tB ?_
 repeat' (first
 | (exact tZ)
 | ((first|refine oblg h ?_|refine roomG h ?_|refine inbG h ?_|refine incG h ?_|refine divG h ?_|refine appG h ?_|refine appC h ?_|refine fork h ?_ ?_|refine forkS h ?_ ?_)<;>clear h<;>intro hc h)
 | (obtain ⟨y,hy,h⟩:=h;(first|have hw:=acall_swe 1000 18 (Wq_law43_make1.c.w hy)|have hw:=WI.w hy);replace hw:=tY hw;(first|refine M.sC hw ?_|refine M.sD hw ?_);clear hw hy;refine tB ?_)
 | (refine M.gv1 (ms:=mg_7x) 47 [44,45,46] h ?_ ?_<;>first
 | (clear h;intro K hK1;unfold mg_7x;refine tB ?_)
 | (clear h;intro b h;replace h:=tY h;refine tB ?_))
 | (refine M.for1 (b:=mc_1s) 32 [31] [] (fun x=>[]) (fun x=>[]) [] h ?_ ?_ ?_<;>first
 | (clear h;intro k a x Qn K hK2 hkN2 ha2 h hf;skip;clear hf;have hkd:=kD hkN2;have hkB2:=kB hkN2;have hkI2:=kI (k:=k) (by (try simp only [wC,wO] at hkN2);omega);have hkd2:decide ((k:Int)<2)=true:=wV (by simp only [wC,wO] at hkN2;omega);have hkr2:(0≤(k:Int)∧(k:Int)<2)=True:=eq_true (by simp only [wC,wO] at hkN2;omega);have hle2:(k*11≤11)=True:=eq_true (by simp only [wC,wO] at hkN2;omega);have hpt2:=take_of (sz:=11) (f:=fun e:GSummary=>[.int .u64 e.Fingerprint,.int .i64 e.Spots,.bool e.Public,.int .i64 e.Readers,.int .i64 e.Since,.int .i64 e.Severity.Level,.int .i64 e.Severity.Worth,.int .i64 e.Severity.Audience,.int .i64 e.Severity.Score,.bool e.Rotated,.bool e.Dead]) (fun _=>rfl) ha2 hkN2;(try simp only [go_sem,Nat.reduceBEq,Nat.reduceAdd,Nat.reduceLeDiff,Nat.reduceSub,Nat.reduceMul,Int.reduceToNat,Int.reduceLT,Int.reduceLE,xV,List.flatMap_nil,w4,vF] at hpt2);unfold F_1s at h;unfold mc_1s;replace h:=tY h;refine tKA ha2 hkd hkN2 hkB2 hkI2 hkd2 hkr2 hle2 hpt2 ?_)
  |(clear h;intro x K h;replace h:=And.left (And.intro h trivial);unfold mc_1s;replace h:=tY h;refine tB ?_)
  |(clear h;(try refine tB ?_);exact tU0;done))
 | (refine M.gv1 (ms:=mg_7w) 28 [26,27] h ?_ ?_<;>first
 | (clear h;intro K hK3;unfold mg_7w;refine tB ?_)
 | (clear h;intro b h;replace h:=tY h;refine tB ?_))
 | (simp only [ha2])
 | ((first|refine hK1 _ ?_|refine hK3 _ ?_);exact tU;done)
 | (refine hK2 _ ?_;(try refine tB ?_);refine ⟨_,h,?_⟩;exact tU0;done)
 | (refine bfork (fun hc=>?_) (fun hc=>?_))
 | (refine tE ?_;(first|rw [M.lok_compU]|rw [M.lokD_compU]);refine tB ?_)
 | (refine tA ?_)
 | fail)⟩
end Go.Ab
