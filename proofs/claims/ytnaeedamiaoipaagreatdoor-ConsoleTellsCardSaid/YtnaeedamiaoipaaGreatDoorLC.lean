/- What the functions of this seat that lie on the laws' road compute (part LC), each for every input. By AI agents. -/
import Derived.Test.YtnaeedamiaoipaaGreatDoorLT
import Derived.Test.YtnaeedamiaoipaaGreatDoorLM
import Derived.Test.YtnaeedamiaoipaaGreatDoorAbMC
set_option linter.all false
set_option linter.all false
set_option maxRecDepth 20000
set_option maxHeartbeats 2000000
namespace Go.Ab
open Go.Proofs
def F_3w (c_:GCommand):Option Bool := (F_1v c_).bind fun y2=>some (!y2)
def mc_3w:MC := (sR [bx 0 1,mF 2] (sR [lN 6 1 3,k1 20 3 4,nT 4 5,oV 5 2] .ret))
instance Wq_console_check_1 {c_:GCommand}:WI (F_3w c_) Tryz.prog 82 [GCommand.v c_] [] (fun z=>.bool z) (fun z=>[]):=⟨fun Q Q' h hQ=>by
 refine acallM mc_3w [] [] [.t 2] Tryz.func82 fun M=>?_
 unfold F_3w at h
 unfold mc_3w
 exact tX⟩
def F_3x (k31:Int) (a32:GCommand) (x30:Unit):Option (Fl Unit Int) := (F_3w a32).bind fun y40=>bif y40 then some (.ex k31) else some (.nx ())
def F_3y (s_:List GCommand):Option Int := (forL F_3x s_ 0 ()).bind fun o=>o.elim (fun x41=>some (-1)) (fun r42=>some r42)
@[irreducible] def mc_3x:MC := (sR [bT .lss 8 7 9] (.seq (.cond (.t 9) .skip (.exit 0)) (.seq (.block 1 (sR [oV 8 10,oV 10 5] (sR [oV 1 11,oV 0 12,oV 5 13,iA 6 12 13 14,lN 6 14 15,mo (.call (.t 11) [(.t 15)] [] []) 16] (.cond (.t 16) (sR [oV 5 17,oV 17 4] .ret) .skip)))) (.reg [aI 8 1 18,oV 18 8]))))
def mc_3y:MC := (sR [oC 0 4] (.seq (sR [oV 0 6,lE 6 7,oC 0 8] (.block 0 (.loop mc_3x))) (sR [oC (-1) 4] .ret)))
attribute [go_sem] F_3x
instance:LI mc_3x 8 7 [0,1,7] [] (fun y:Unit=>[]) (fun y=>[]) []:=⟨⟩
instance Wq_slices_IndexFunc_api_Command_api_Command_of_console_check_1 {s_:List GCommand}:WI (F_3y s_) Tryz.prog 85 [.sl (s_.map GCommand.v),.fn (.func 82) []] [] (fun z=>.int .i64 z) (fun z=>[]):=⟨fun Q Q' h hQ=>by
 refine acallM mc_3y [] [] [.t 4] Tryz.func85 fun M=>?_
 unfold F_3y at h
 unfold mc_3y
 exact tX⟩
def F_3z (s_:List GCommand):Option Bool := (F_3y s_).bind fun y2=>some (decide (0≤y2))
def mc_3z:MC := (sR [mF 4] (sR [oV 0 5,oV 1 6,k2 85 5 6 7,bC .geq 7 0 8,oV 8 4] .ret))
instance Wq_slices_ContainsFunc_api_Command_api_Command_of_console_check_1 {s_:List GCommand}:WI (F_3z s_) Tryz.prog 43 [.sl (s_.map GCommand.v),.fn (.func 82) []] [] (fun z=>.bool z) (fun z=>[]):=⟨fun Q Q' h hQ=>by
 refine acallM mc_3z [] [] [.t 4] Tryz.func43 fun M=>?_
 unfold F_3z at h
 unfold mc_3z
 exact tX⟩
def F_2d (l_:List GCommand):Option Int := bif decide (60<(l_.length:Int)) then some 3 else (F_3z l_).bind fun y4=>bif y4 then some 45 else some 0
def mc_2d:MC := (sR [oC 0 2] (.seq (.block 0 (sR [oV 0 4,lE 4 5,bC .gtr 5 60 6,oV 6 3] (.cond (.t 3) (sR [oC 3 2] .ret) (sR [oV 0 8,mo (.call (.f 43) [(.t 8),(.f 82)] [] []) 9,oV 9 7] (.cond (.t 7) (sR [oC 45 2] .ret) .skip))))) (sR [oC 0 2] .ret)))
instance Wq_console_check {l_:List GCommand}:WI (F_2d l_) Tryz.prog 36 [.sl (l_.map GCommand.v)] [] (fun z=>.int .i64 z) (fun z=>[]):=⟨fun Q Q' h hQ=>by
 refine acallM mc_2d [] [] [.t 2] Tryz.func36 fun M=>?_
 unfold F_2d at h
 unfold mc_2d
 exact tX⟩
def F_2 (e_:Int):Option (GDirectory×GEstate×(List Str)×Int) := some ((GDirectory.mk [] []),(GEstate.mk 0 []),[],e_)
def mc_2:MC := (sR [mo (.alloc [(.sl []),(.sl [])]) 2,mo (.alloc [(.int .i64 0),(.sl [])]) 3,mo (.mv (.c (.sl []))) 4,oC 0 5] (sR [mo (.build [(.sl []),(.sl [])] []) 6,mo (.build [(.int .i64 0),(.sl [])] []) 7,oV 0 8,⟨.st 2 (.t 2) (.t 6),none,none⟩,⟨.st 2 (.t 3) (.t 7),none,none⟩,mo (.mv (.c (.sl []))) 4,oV 8 5] .ret))
instance Wq_console_Make_1 {e_:Int}:WI (F_2 e_) Tryz.prog 35 [.int .i64 e_] [] (fun z=>.tup [GDirectory.v z.1,GEstate.v z.2.1,.sl (z.2.2.1.map V.str),.int .i64 z.2.2.2]) (fun z=>[]):=⟨fun Q Q' h hQ=>by
 refine acallM mc_2 [.fzc 2,.fzc 3,.fz 4] [] [.c 2 (some 2),.c 3 (some 2),.t 4,.t 5] Tryz.func35 fun M=>?_
 unfold F_2 at h
 unfold mc_2
 exact tX⟩
def F_2e (k16:Int) (a17:GCommand) (x15:(List Str)×(List Int)):Option ((List Str)×(List Int)) := bif decide (a17.Kind=1) then chk (room (x15.2.length+[1].length) 8) (chk (room (x15.1.length+[a17.Name].length) 16) (some ((x15.1++[a17.Name]),(x15.2++[1])))) else bif decide (a17.Kind=2) then chk (room (x15.2.length+[2].length) 8) (chk (room (x15.1.length+[a17.Name].length) 16) (some ((x15.1++[a17.Name]),(x15.2++[2])))) else some (x15.1,x15.2)
def F_2f (l_:List GCommand):Option ((List Int)×(List Str)) := (foldL F_2e l_ 0 ([],[])).bind fun x18=>some (x18.2,x18.1)
@[irreducible] def mc_2e:MC := (sR [bT .lss 8 7 9] (.seq (.cond (.t 9) .skip (.exit 0)) (.seq (.block 1 (sR [iA 6 6 8 10,lN 6 10 11,mo (.alloc [(.int .i64 0),(.str []),(.str []),(.int .i64 0),(.int .i64 0),(.int .i64 0)]) 5,⟨.st 6 (.t 5) (.t 11),none,none⟩] (sR [oF 0 5 12,oL 12 13] (.block 2 (sR [bC .eql 13 1 15,oV 15 14] (.cond (.t 14) (.regD [oV 2 16,mo (.bslice 1 [(cI 1)]) 17,ap 1 8 16 17 18,oV 3 19,oF 1 5 20,oL 20 21,mo (.bslice 1 [(.t 21)]) 22,ap 1 16 19 22 23,oV 18 2,oV 23 3] [[],[],[0,1],[],[],[4],[5],[3,6,2],[2,7,0,1,2],[7,8,0,1,2,3,4,5,6,7,8]] [[],[],[0,1],[],[],[4],[4,5],[0,1,2,3,4,5,6],[0,1,2,3,4,5,6,7],[0,1,2,3,4,5,6,7,8]]) (sR [bC .eql 13 2 25,oV 25 24] (.cond (.t 24) (.note (.gc [2,3,5,6,7,8]) (.regD [oV 2 26,mo (.bslice 1 [(cI 2)]) 27,ap 1 8 26 27 28,oV 3 29,oF 1 5 30,oL 30 31,mo (.bslice 1 [(.t 31)]) 32,ap 1 16 29 32 33,oV 28 2,oV 33 3] [[],[],[0,1],[],[],[4],[5],[3,6,2],[2,7,0,1,2],[7,8,0,1,2,3,4,5,6,7,8]] [[],[],[0,1],[],[],[4],[4,5],[0,1,2,3,4,5,6],[0,1,2,3,4,5,6,7],[0,1,2,3,4,5,6,7,8]])) .skip)))))))) (.reg [aI 8 1 34,oV 34 8]))))
def mc_2f:MC := (sR [mo (.mv (.c .nils)) 2,mo (.mv (.c .nils)) 3] (.seq (sR [oV 0 6,lE 6 7,oC 0 8] (.block 0 (.loop mc_2e))) (sR [oV 2 35,oV 3 36,oV 35 2,oV 36 3] .ret)))
attribute [go_sem] F_2e
instance:LI mc_2e 8 7 [6,7] [] (fun y:(List Str)×(List Int)=>[(2,.osl 2002 1 0 y.2.length),(3,.osl 2003 1 0 y.1.length)]) (fun y=>[.o 2003 (.arr 1 (y.1.map V.str)),.o 2002 (.arr 1 (y.2.map (V.int .i64)))]) [.gc [2,3,6,7,8],.acc 2 2002 1,.acc 3 2003 1]:=⟨⟩
instance Wq_console_introduce {l_:List GCommand}:WI (F_2f l_) Tryz.prog 37 [.sl (l_.map GCommand.v)] [] (fun z=>.tup [.sl (z.1.map (V.int .i64)),.sl (z.2.map V.str)]) (fun z=>[]):=⟨fun Q Q' h hQ=>by
 refine acallM mc_2f [.fz 2,.fz 3] [] [.t 2,.t 3] Tryz.func37 fun M=>?_
 unfold F_2f at h
 unfold mc_2f
 exact tX⟩
def F_4x (k12:Int) (a11:Str) (x10:List Str):Option (Fl (List Str) Empty) := chk (room (x10.length+[a11].length) 16) (some (.nx (x10++[a11])))
def F_40 (seqc0_:List Str):Option (List Str) := (forL F_4x seqc0_ 0 []).bind fun o=>o.elim (fun x13=>some x13) (fun r14=>none)
@[irreducible] def mc_5a:MC := (.block 1 (.reg [oL 2 8,oV 5 9,mo (.bslice 1 [(.t 9)]) 10,ap 1 16 8 10 11,⟨.st 1 (.t 2) (.t 11),none,none⟩]))
def mc_40:MC := (sR [bx 0 2,mo (.mv (.c .nils)) 4] (.seq (sR [oV 1 6] (.block 0 (.note (.ownC 2 0 4032 1 none) (.rngF (.t 6) [7] (.reg [oV 7 5]) mc_5a)))) (sR [oL 2 12,oV 12 4] .ret)))
instance Wq_slices_AppendSeq_string_string_of_slices_Values_string_string_1 {seqc0_:List Str}:WI (F_40 seqc0_) Tryz.prog 111 [.nils,.fn (.func 84) [.eptr (.agg [.sl (seqc0_.map V.str)]) 0]] [] (fun z=>.osl 1900 1 0 z.length) (fun z=>[(1900,.arr 1 (z.map V.str))]):=⟨fun Q Q' h hQ=>by
 refine acallM mc_40 [.acc 4 1900 1] [1900] [.t 4] Tryz.func111 fun M=>?_
 unfold F_40 at h
 unfold mc_40
 replace h:=tY h
 refine tB ?_
 repeat' (first
 | (exact tZ)
 | ((first|refine oblg h ?_|refine roomG h ?_|refine inbG h ?_|refine incG h ?_|refine divG h ?_|refine appG h ?_|refine appC h ?_|refine fork h ?_ ?_|refine forkS h ?_ ?_)<;>clear h<;>intro hc h)
 | (refine M.rfor (b:=mc_5a) (enc:=fun a=>[.str a]) [2] [] (fun x=>[.o 2 (.cells [.osl 4032 1 0 x.length]),.o 4032 (.arr 1 (x.map V.str))]) [.gc [0,1,2,4,6],.ownC 2 0 4032 1 none] h rfl (aiter_vals _) rfl (fun a=>⟨rfl,rfl⟩) ?_ ?_ rfl ?_<;>first
 | (clear h;intro k a x Qn K hK1 hkN1 h hf;clear hf;unfold F_4x at h;unfold mc_5a;replace h:=tY h;refine tB ?_)
  |(clear h;intro x h;replace h:=tY h;refine tB ?_)
  |(clear h;(try refine tB ?_);exact tU0;done))
 | (refine hK1 _ ?_;(try refine tB ?_);refine ⟨_,h,?_⟩;exact tU0;done)
 | (refine tE ?_;(first|rw [M.lok_compU]|rw [M.lokD_compU]);refine tB ?_)
 | (refine tA ?_)
 | fail)⟩
def F_41 (seqc0_:List Str):Option (List Str) := (F_40 seqc0_).bind fun y2=>some y2
def mc_41:MC := (sR [mo (.mv (.c .nils)) 2] (sR [oV 0 3,mo (.call (.f 111) [(.c .nils),(.t 3)] [] [4]) 4,oV 4 2] .ret))
instance Wq_slices_Collect_string_of_slices_Values_string_string_1 {seqc0_:List Str}:WI (F_41 seqc0_) Tryz.prog 73 [.fn (.func 84) [.eptr (.agg [.sl (seqc0_.map V.str)]) 0]] [] (fun z=>.osl 1900 1 0 z.length) (fun z=>[(1900,.arr 1 (z.map V.str))]):=⟨fun Q Q' h hQ=>by
 refine acallM mc_41 [.acc 2 1900 1] [1900] [.t 2] Tryz.func73 fun M=>?_
 unfold F_41 at h
 unfold mc_41
 replace h:=tY h
 refine tB ?_
 repeat' (first
 | (exact tZ)
 | ((first|refine oblg h ?_|refine roomG h ?_|refine inbG h ?_|refine incG h ?_|refine divG h ?_|refine appG h ?_|refine appC h ?_|refine fork h ?_ ?_|refine forkS h ?_ ?_)<;>clear h<;>intro hc h)
 | (obtain ⟨y,hy,h⟩:=h;have hw:=acall_swe 1900 4 (Wq_slices_AppendSeq_string_string_of_slices_Values_string_string_1.c.w hy);replace hw:=tY hw;(first|refine M.sC hw ?_|refine M.sD hw ?_);clear hw hy;refine tB ?_)
 | (refine tE ?_;(first|rw [M.lok_compU]|rw [M.lokD_compU]);refine tB ?_)
 | (refine tA ?_)
 | fail)⟩
def F_2g (seqc0_:List Str):Option (List Str) := (F_41 seqc0_).bind fun y2=>(sortS y2).bind fun y4=>some y4
def mc_2g:MC := (sR [mo (.mv (.c .nils)) 2] (sR [oV 0 4,mo (.call (.f 73) [(.t 4)] [] [5]) 5,oV 5 3] (sR [oV 3 6,mo (.call (.f 83) [(.t 6)] [5] []) 7] (sR [oV 3 8,oV 8 2] .ret))))
instance Wq_slices_Sorted_string_of_slices_Values_string_string_1 {seqc0_:List Str}:WI (F_2g seqc0_) Tryz.prog 38 [.fn (.func 84) [.eptr (.agg [.sl (seqc0_.map V.str)]) 0]] [] (fun z=>.osl 1900 1 0 z.length) (fun z=>[(1900,.arr 1 (z.map V.str))]):=⟨fun Q Q' h hQ=>by
 refine acallM mc_2g [.acc 2 1900 1] [1900] [.t 2] Tryz.func38 fun M=>?_
 unfold F_2g at h
 unfold mc_2g
 replace h:=tY h
 refine tB ?_
 repeat' (first
 | (exact tZ)
 | (refine And.intro (by refine ⟨?_,?_,?_,?_⟩<;>omega) ?_;first|exact hQ _ h|(rw [zP (by omega)];exact hQ _ h))
 | (rw [←hlen];exact hQ _ h)
 | (have hq:=hQ _ h;simp only [xX,Nat.min_eq_left hlen.1] at hq;exact hq)
 | ((first|refine oblg h ?_|refine roomG h ?_|refine inbG h ?_|refine incG h ?_|refine divG h ?_|refine appG h ?_|refine appC h ?_|refine fork h ?_ ?_|refine forkS h ?_ ?_)<;>clear h<;>intro hc h)
 | (obtain ⟨y,hy,h⟩:=h;(first|have hw:=acall_swe 1900 5 (Wq_slices_Collect_string_of_slices_Values_string_string_1.c.w hy)|(have hw:=acall_swe 1000 5 (W_7n hy);replace hw:=tY hw;(try simp only [hlen] at hw);have hlen:=sortS_len hy));replace hw:=tY hw;(first|refine M.sC hw ?_|refine M.sD hw ?_);clear hw hy;refine tB ?_)
 | (refine tE ?_;(first|rw [M.lok_compU]|rw [M.lokD_compU]);refine tB ?_)
 | (refine tA ?_)
 | fail)⟩
def F_42 (v_:Str) (k11:Int) (a12:Str) (x10:Unit):Option (Fl Unit Int) := bif decide (v_=a12) then some (.ex k11) else some (.nx ())
def F_g (s_:List Str) (v_:Str):Option Int := (forL (F_42 v_) s_ 0 ()).bind fun o=>o.elim (fun x13=>some (-1)) (fun r14=>some r14)
@[irreducible] def mc_42:MC := (sR [bT .lss 8 7 9] (.seq (.cond (.t 9) .skip (.exit 0)) (.seq (.block 1 (sR [oV 8 10,oV 10 5] (sR [oV 1 11,oV 0 12,oV 5 13,iA 1 12 13 14,oL 14 15,bT .eql 11 15 16] (.cond (.t 16) (sR [oV 5 17,oV 17 4] .ret) .skip)))) (.reg [aI 8 1 18,oV 18 8]))))
def mc_g:MC := (sR [oC 0 4] (.seq (sR [oV 0 6,lE 6 7,oC 0 8] (.block 0 (.loop mc_42))) (sR [oC (-1) 4] .ret)))
attribute [go_sem] F_42
instance:LI mc_42 8 7 [0,1,7] [] (fun y:Unit=>[]) (fun y=>[]) []:=⟨⟩
instance Wq_slices_Index_string_string {s_:List Str} {v_:Str}:WI (F_g s_ v_) Tryz.prog 32 [.sl (s_.map V.str),.str v_] [] (fun z=>.int .i64 z) (fun z=>[]):=⟨fun Q Q' h hQ=>by
 refine acallM mc_g [] [] [.t 4] Tryz.func32 fun M=>?_
 unfold F_g at h
 unfold mc_g
 exact tX⟩
def F_3c (s_:List Str) (v_:Str):Option Bool := (F_g s_ v_).bind fun y2=>some (decide (0≤y2))
def mc_3c:MC := (sR [mF 4] (sR [oV 0 5,oV 1 6,k2 32 5 6 7,bC .geq 7 0 8,oV 8 4] .ret))
instance Wq_slices_Contains_string_string {s_:List Str} {v_:Str}:WI (F_3c s_ v_) Tryz.prog 41 [.sl (s_.map V.str),.str v_] [] (fun z=>.bool z) (fun z=>[]):=⟨fun Q Q' h hQ=>by
 refine acallM mc_3c [] [] [.t 4] Tryz.func41 fun M=>?_
 unfold F_3c at h
 unfold mc_3c
 exact tX⟩
def F_2h (s_:Str) (p_:List Str):Option Bool := jn (α:=Bool) (bif (!decide (s_=[])) then (F_3c p_ s_).bind fun y4=>some (!y4) else some false) fun j5=>some j5
@[irreducible] def mg_7c:List MOp:=[tL 6 7 1,tV 6 8 0,gT 6 9 (.call (.f 41) [(.t 7),(.t 8)] [] []),gT 6 10 (.not (.t 9)),pA 6 10 11]
def mc_2h:MC := (sR [mF 3] (.seq (.regI [.op (oV 0 4),.op (mo (.bin false .neq (.t 4) (.c (.str []))) 5),.op (oV 5 6),.grp mg_7c,.op (oV 11 3)]) .ret))
instance:GI mg_7c [3] [1000] (fun y:Bool=>[(11,.bool y)]) (fun y=>[]):=⟨⟩
instance Wq_console_Make_2 {s_:Str} {p_:List Str}:WI (F_2h s_ p_) Tryz.prog 40 [.str s_,.ptr 1000 0] [(1000,.cells [.sl (p_.map V.str)])] (fun z=>.bool z) (fun z=>[(1000,.cells [.sl (p_.map V.str)])]):=⟨fun Q Q' h hQ=>by
 refine acallM mc_2h [] [1000] [.t 3] Tryz.func40 fun M=>?_
 unfold F_2h at h
 unfold mc_2h
 exact tX⟩
def F_3d (c_:GCommand) (pc0_:List Str):Option Bool := (F_2h c_.Name pc0_).bind fun y4=>jn (α:=Bool) (bif y4 then some true else (F_2h c_.Other pc0_).bind fun y6=>some y6) fun j7=>some j7
@[irreducible] def mg_5b:List MOp:=[fL 8 9 1,fa_ 8 10 2 2,fL 8 11 10,gF 8 12 (.call (.t 9) [(.t 11)] [1001] []),pO 8 12 13]
def mc_3d:MC := (sR [bx 0 2,mF 3] (.seq (.regI [.op (oL 1 4),.op (oF 1 2 5),.op (oL 5 6),.op (mo (.call (.t 4) [(.t 6)] [1001] []) 7),.op (oV 7 8),.grp mg_5b,.op (oV 13 3)]) .ret))
instance Wq_console_Make_3 {c_:GCommand} {pc0_:List Str}:WI (F_3d c_ pc0_) Tryz.prog 44 [GCommand.v c_,.ptr 1000 0] [(1000,.cells [.fn (.func 40) [.ptr 1001 0]]),(1001,.cells [.sl (pc0_.map V.str)])] (fun z=>.bool z) (fun z=>[(1000,.cells [.fn (.func 40) [.ptr 1001 0]]),(1001,.cells [.sl (pc0_.map V.str)])]):=⟨fun Q Q' h hQ=>by
 refine acallM mc_3d [] [1000,1001] [.t 3] Tryz.func44 fun M=>?_
 unfold F_3d at h
 unfold mc_3d
 replace h:=tY h
 refine tB ?_
 repeat' (first
 | (exact tZ)
 | ((first|refine oblg h ?_|refine roomG h ?_|refine inbG h ?_|refine incG h ?_|refine divG h ?_|refine appG h ?_|refine appC h ?_|refine fork h ?_ ?_|refine forkS h ?_ ?_)<;>clear h<;>intro hc h)
 | (obtain ⟨y,hy,h⟩:=h;have hw:=acall_swe 1000 1001 (Wq_console_Make_2.c.w hy);replace hw:=tY hw;(first|refine M.sC hw ?_|refine M.sD hw ?_);clear hw hy;refine tB ?_)
 | (refine M.gj1 (ms:=mg_5b) [3] [1000,1001] (fun y=>[(13,.bool y)]) (fun y=>[]) h ?_ ?_<;>first
 | (clear h;intro Qn K hK1 h;unfold mg_5b;replace h:=tY h;refine tB ?_)
  |(clear h;intro y h;replace h:=tY h;refine tB ?_))
 | (refine hK1 _ ?_;(try refine tB ?_);refine ⟨_,h,?_⟩;exact tU0;done)
 | (refine tE ?_;(first|rw [M.lok_compU]|rw [M.lokD_compU]);refine tB ?_)
 | (refine tA ?_)
 | fail)⟩
def F_43 (fc0c0_:List Str) (k31:Int) (a32:GCommand) (x30:Unit):Option (Fl Unit Int) := (F_3d a32 fc0c0_).bind fun y40=>bif y40 then some (.ex k31) else some (.nx ())
def F_44 (s_:List GCommand) (fc0c0_:List Str):Option Int := (forL (F_43 fc0c0_) s_ 0 ()).bind fun o=>o.elim (fun x41=>some (-1)) (fun r42=>some r42)
@[irreducible] def mc_43:MC := (sR [bT .lss 8 7 9] (.seq (.cond (.t 9) .skip (.exit 0)) (.seq (.block 1 (sR [oV 8 10,oV 10 5] (sR [oV 1 11,oV 0 12,oV 5 13,iA 6 12 13 14,lN 6 14 15,mo (.call (.t 11) [(.t 15)] [1000,1001] []) 16] (.cond (.t 16) (sR [oV 5 17,oV 17 4] .ret) .skip)))) (.reg [aI 8 1 18,oV 18 8]))))
def mc_44:MC := (sR [oC 0 4] (.seq (sR [oV 0 6,lE 6 7,oC 0 8] (.block 0 (.loop mc_43))) (sR [oC (-1) 4] .ret)))
attribute [go_sem] F_43
instance:LI mc_43 8 7 [0,1,7] [1000,1001] (fun y:Unit=>[]) (fun y=>[]) []:=⟨⟩
instance Wq_slices_IndexFunc_api_Command_api_Command_of_console_Make_3 {s_:List GCommand} {fc0c0_:List Str}:WI (F_44 s_ fc0c0_) Tryz.prog 85 [.sl (s_.map GCommand.v),.fn (.func 44) [.ptr 1000 0]] [(1000,.cells [.fn (.func 40) [.ptr 1001 0]]),(1001,.cells [.sl (fc0c0_.map V.str)])] (fun z=>.int .i64 z) (fun z=>[(1000,.cells [.fn (.func 40) [.ptr 1001 0]]),(1001,.cells [.sl (fc0c0_.map V.str)])]):=⟨fun Q Q' h hQ=>by
 refine acallM mc_44 [] [1000,1001] [.t 4] Tryz.func85 fun M=>?_
 unfold F_44 at h
 unfold mc_44
 exact tX⟩
def F_2i (s_:List GCommand) (fc0c0_:List Str):Option Bool := (F_44 s_ fc0c0_).bind fun y2=>some (decide (0≤y2))
def mc_2i:MC := (sR [mF 4] (sR [oV 0 5,oV 1 6,mo (.call (.f 85) [(.t 5),(.t 6)] [1000,1001] []) 7,bC .geq 7 0 8,oV 8 4] .ret))
instance Wq_slices_ContainsFunc_api_Command_api_Command_of_console_Make_3 {s_:List GCommand} {fc0c0_:List Str}:WI (F_2i s_ fc0c0_) Tryz.prog 43 [.sl (s_.map GCommand.v),.fn (.func 44) [.ptr 1000 0]] [(1000,.cells [.fn (.func 40) [.ptr 1001 0]]),(1001,.cells [.sl (fc0c0_.map V.str)])] (fun z=>.bool z) (fun z=>[(1000,.cells [.fn (.func 40) [.ptr 1001 0]]),(1001,.cells [.sl (fc0c0_.map V.str)])]):=⟨fun Q Q' h hQ=>by
 refine acallM mc_2i [] [1000,1001] [.t 4] Tryz.func43 fun M=>?_
 unfold F_2i at h
 unfold mc_2i
 exact tX⟩
noncomputable def F_1k (s_:List GCommand):Option (List GCommand) := amb s_.isEmpty (some []) (chk (room (([]:List GCommand).length+s_.length) 64) (some (([]:List GCommand)++s_)))
def mc_1k:MC := (sR [mo (.mv (.c .nils)) 2] (.seq (sR [oV 0 3,mo (.mp (.isn false) [(.t 3)]) 4] (.cond (.t 4) (sR [mo (.mv (.c .nils)) 2] .ret) .skip)) (sR [mo (.bslice 6 []) 5,oV 0 6,ap 6 64 5 6 7,oV 7 2] .ret)))
instance Wq_slices_Clone_api_Command_api_Command {s_:List GCommand}:WI (F_1k s_) Tryz.prog 45 [.sl (s_.map GCommand.v)] [] (fun z=>.osl 1900 6 0 z.length) (fun z=>[(1900,.arr 6 (z.map GCommand.v))]):=⟨fun Q Q' h hQ=>by
 refine acallM mc_1k [.acc 2 1900 6] [1900] [.t 2] Tryz.func45 fun M=>?_
 unfold F_1k at h
 unfold mc_1k
 exact tX⟩
def F_3e (x_:GCommand) (y_:GCommand):Option Int := chk (in64 (x_.Time - y_.Time)) (some (x_.Time - y_.Time))
def mc_3e:MC := (sR [bx 0 2,bx 1 3,oC 0 4] (sR [oF 3 2 5,oL 5 6,oF 3 3 7,oL 7 8,mo (.bin true .sub (.t 6) (.t 8)) 9,oV 9 4] .ret))
instance Wq_console_Make_4 {x_ y_:GCommand}:WI (F_3e x_ y_) Tryz.prog 47 [GCommand.v x_,GCommand.v y_] [] (fun z=>.int .i64 z) (fun z=>[]):=⟨fun Q Q' h hQ=>by
 refine acallM mc_3e [] [] [.t 4] Tryz.func47 fun M=>?_
 unfold F_3e at h
 unfold mc_3e
 exact tX⟩
noncomputable def F_y (a_:Int) (x126:Int×(List GCommand)):Option (Fl (Int×(List GCommand)) (List GCommand)) := bif decide (a_<x126.1) then chk (inb x126.1 x126.2.length) (chk (in64 (x126.1 - 1)) (chk (inb (x126.1 - 1) x126.2.length) ((F_3e (x126.2.getD ((x126.1).toNat) default) (x126.2.getD (((x126.1 - 1)).toNat) default)).bind fun y134=>bif decide (y134<0) then chk (in64 (x126.1 - 1)) (chk (in64 (x126.1 - 1)) (chk (inb (x126.1 - 1) x126.2.length) (chk (inb x126.1 x126.2.length) (chk (inb x126.1 x126.2.length) (chk (inb (x126.1 - 1) (x126.2.set ((x126.1).toNat) (x126.2.getD (((x126.1 - 1)).toNat) default)).length) (chk (in64 (x126.1 - 1)) (some (.nx ((x126.1 - 1),(x126.2.set ((x126.1).toNat) (x126.2.getD (((x126.1 - 1)).toNat) default)).set (((x126.1 - 1)).toNat) (x126.2.getD ((x126.1).toNat) default)))))))))) else some (.ex x126.2)))) else some (.ex x126.2)
noncomputable def F_1l (a_:Int) (b_:Int) (x67:Int×(List GCommand)):Option (Fl (Int×(List GCommand)) (List GCommand)) := bif decide (x67.1<b_) then (loop (F_y a_) (x67.1,x67.2)).bind fun r135=>chk (in64 (x67.1+1)) (some (.nx ((x67.1+1),r135))) else some (.ex x67.2)
noncomputable def F_a (data_:List GCommand) (a_:Int) (b_:Int):Option (List GCommand) := chk (in64 (a_+1)) ((loop (F_1l a_ b_) ((a_+1),data_)).bind fun r136=>some r136)
@[irreducible] def mc_y:MC := (.seq (.seq (.regD [oV 9 18,oV 1 19,bT .gtr 18 19 20,oV 20 21,tV 21 22 3,tV 21 23 0,tV 21 24 9,gT 21 25 (.iad 6 (.t 23) (.t 24)),gT 21 26 (.ld (some 6) (.t 25)),tV 21 27 0,tV 21 28 9,gT 21 29 (.bin true .sub (.t 28) (cI 1)),gT 21 30 (.iad 6 (.t 27) (.t 29)),gT 21 31 (.ld (some 6) (.t 30)),gT 21 32 (.call (.t 22) [(.t 26),(.t 31)] [] []),gT 21 33 (.bin false .lss (.t 32) (cI 0)),pA 21 33 34] [[],[],[0,1],[2],[3],[3],[3],[5,6,3],[7,3],[3],[3],[10,3],[9,11,3],[12,3],[4,8,13,3,3],[14,3],[3,15]] [[],[],[0,1],[0,1,2],[0,1,2,3],[0,1,2,3],[0,1,2,3],[0,1,2,3,5,6],[0,1,2,3,5,6,7],[0,1,2,3],[0,1,2,3],[0,1,2,3,10],[0,1,2,3,9,10,11],[0,1,2,3,9,10,11,12],[0,1,2,3,4,5,6,7,8,9,10,11,12,13],[0,1,2,3,4,5,6,7,8,9,10,11,12,13,14],[0,1,2,3,4,5,6,7,8,9,10,11,12,13,14,15]]) (.cond (.t 34) .skip (.exit 2))) (.seq (.block 3 (.regD [oV 0 37,oV 9 38,oV 0 39,oV 9 40,sI 40 1 41,oV 0 42,oV 9 43,sI 43 1 44,iA 6 42 44 45,lN 6 45 46,oV 0 47,oV 9 48,iA 6 47 48 49,lN 6 49 50,iA 6 37 38 51,⟨.st 6 (.t 51) (.t 46),none,none⟩,iA 6 39 41 52,⟨.st 6 (.t 52) (.t 50),none,none⟩] [[],[],[],[],[3],[],[],[6],[5,7],[8],[],[],[10,11],[12],[0,1,0,1,5,6,7,8,9,13],[14,9,0,1,5,6,7,8,9,13],[2,4,0,1,2,3,4,5,6,7,8,9,10,11,12,13,14,15],[16,13,15,0,1,2,3,4,5,6,7,8,9,10,11,12,13,14,15]] [[],[],[],[],[3],[],[],[6],[5,6,7],[5,6,7,8],[],[],[10,11],[10,11,12],[0,1,5,6,7,8,9,10,11,12,13],[0,1,5,6,7,8,9,10,11,12,13,14],[0,1,2,3,4,5,6,7,8,9,10,11,12,13,14,15],[0,1,2,3,4,5,6,7,8,9,10,11,12,13,14,15,16]])) (.note (.gc [0,1,2,3,8,9,22,23,24,25,26,27,28,29,30,31,32,33]) (.reg [oV 9 35,sI 35 1 36,oV 36 9]))))
@[irreducible] def mc_1l:MC := (.seq (sR [oV 8 12,oV 2 13,bT .lss 12 13 14] (.cond (.t 14) .skip (.exit 0))) (.seq (.block 1 (sR [oV 8 17,oV 17 9] (.block 2 (.loop mc_y)))) (.reg [oV 8 15,aI 15 1 16,oV 16 8])))
def mc_a:MC := (sR [oV 1 10,aI 10 1 11,oV 11 8] (.block 0 (.loop mc_1l)))
attribute [go_sem] F_y F_1l
instance:LI mc_y 0 0 [1,2,3,8] [] (fun y:Int×(List GCommand)=>[(0,.osl 1000 6 0 y.2.length),(9,.int .i64 y.1)]) (fun y=>[.o 1000 (.arr 6 (y.2.map GCommand.v))]) []:=⟨⟩
instance:LI mc_1l 0 0 [1,2,3] [] (fun y:Int×(List GCommand)=>[(0,.osl 1000 6 0 y.2.length),(8,.int .i64 y.1)]) (fun y=>[.o 1000 (.arr 6 (y.2.map GCommand.v))]) []:=⟨⟩
instance Wq_slices_insertionSortCmpFunc_api_Command_of_console_Make_4 {data_:List GCommand} {a_ b_:Int}:WI (F_a data_ a_ b_) Tryz.prog 131 [.osl 1000 6 0 data_.length,.int .i64 a_,.int .i64 b_,.fn (.func 47) []] [(1000,.arr 6 (data_.map GCommand.v))] (fun z=>.tup []) (fun z=>[(1000,.arr 6 (z.map GCommand.v))]):=⟨fun Q Q' h hQ=>by
 refine acallM mc_a [] [1000] [] Tryz.func131 fun M=>?_
 unfold F_a at h
 unfold mc_a
 exact tX⟩
theorem F_7d {a_:Int} {s:Int×(List GCommand)} {o:Fl (Int×(List GCommand)) (List GCommand)} (h:F_y a_ s=some o):o.elim (fun s'=>s'.2.length=s.2.length) (fun q=>q.length=s.2.length):=by
 refine (?_:Al _ _) o h
 clear h
 unfold F_y
 repeat' (first|(with_reducible first|exact Al.none|apply Al.chk|apply Al.ite|apply Al.grp)|((with_reducible refine Al.some ?_);simp_all [Fl.elim];done)|((with_reducible first|refine Al.jn fun w h1=>?_|refine Al.bind fun w h1=>?_);(first|skip)))
theorem F_7y {a_:Int} {b_:Int} {s:Int×(List GCommand)} {o:Fl (Int×(List GCommand)) (List GCommand)} (h:F_1l a_ b_ s=some o):o.elim (fun s'=>s'.2.length=s.2.length) (fun q=>q.length=s.2.length):=by
 refine (?_:Al _ _) o h
 clear h
 unfold F_1l
 repeat' (first|(with_reducible first|exact Al.none|apply Al.chk|apply Al.ite|apply Al.grp)|((with_reducible refine Al.some ?_);simp_all [Fl.elim];done)|((with_reducible first|refine Al.jn fun w h1=>?_|refine Al.bind fun w h1=>?_);(first|(have e1:=loop_len (m:=fun s:Int×(List GCommand)=>s.2.length) (r:=fun q:(List GCommand)=>q.length) (fun _ _=>F_7d) h1)|skip)))
theorem F_5c {data_:List GCommand} {a_:Int} {b_:Int} {y:List GCommand} (h:(F_a data_ a_ b_)=some y):y.length=data_.length:=by
 refine (?_:Al _ (fun y=>y.length=data_.length)) y h
 clear h
 unfold F_a
 repeat' (first|(with_reducible first|exact Al.none|apply Al.chk|apply Al.ite|apply Al.grp)|((with_reducible refine Al.some ?_);simp_all [Fl.elim];done)|((with_reducible first|refine Al.jn fun w h1=>?_|refine Al.bind fun w h1=>?_);(first|(have e1:=loop_len (m:=fun s:Int×(List GCommand)=>s.2.length) (r:=fun q:(List GCommand)=>q.length) (fun _ _=>F_7d) h1)|(have e1:=loop_len (m:=fun s:Int×(List GCommand)=>s.2.length) (r:=fun q:(List GCommand)=>q.length) (fun _ _=>F_7y) h1)|skip)))
noncomputable def F_m (n_:Int) (x17:Int×Int×(List GCommand)):Option (Fl (Int×Int×(List GCommand)) (Int×(List GCommand))) := bif decide (x17.2.1≤n_) then (F_a x17.2.2 x17.1 x17.2.1).bind fun y21=>chk (in64 (x17.2.1+20)) (some (.nx (x17.2.1,(x17.2.1+20),y21))) else some (.ex (x17.1,x17.2.2))
noncomputable def F_1m (n_:Int) (x26:Unit):Option (Fl Unit Unit) := bif decide (20<n_) then none else some (.ex ())
noncomputable def F_z (data_:List GCommand) (n_:Int):Option (List GCommand) := (loop (F_m n_) (0,20,data_)).bind fun r22=>(F_a r22.2 r22.1 n_).bind fun y24=>(loop (F_1m n_) ()).bind fun r27=>some y24
@[irreducible] def mc_m:MC := (.seq (sR [oV 8 11,oV 1 12,bT .leq 11 12 13] (.cond (.t 13) .skip (.exit 0))) (.block 1 (sR [oV 0 14,oV 7 15,oV 8 16,oV 2 17,mo (.call (.f 131) [(.t 14),(.t 15),(.t 16),(.t 17)] [1000] []) 18] (sR [oV 8 19,oV 19 7] (.note (.gc [0,1,2,6,7,8]) (.reg [oV 8 20,oV 6 21,mo (.bin true .add (.t 20) (.t 21)) 22,oV 22 8]))))))
@[irreducible] def mc_7z:MC := (.seq (sR [oV 8 33,oV 1 34,bT .leq 33 34 35] (.cond (.t 35) .skip (.exit 4))) (.block 5 (sR [oV 0 36,oV 7 37,oV 7 38,oV 6 39,mo (.bin true .add (.t 38) (.t 39)) 40,oV 8 41,oV 2 42,mo (.call (.f 132) [(.t 36),(.t 37),(.t 40),(.t 41),(.t 42)] [] []) 43] (sR [oV 8 44,oV 44 7] (.reg [oV 8 45,oV 6 46,mo (.bin true .mul (cI 2) (.t 46)) 47,mo (.bin true .add (.t 45) (.t 47)) 48,oV 48 8])))))
@[irreducible] def mc_1m:MC := (.seq (sR [oV 6 28,oV 1 29,bT .lss 28 29 30] (.cond (.t 30) .skip (.exit 2))) (.block 3 (.seq .no (.seq (.block 4 (.loop mc_7z)) (.seq (sR [oV 7 49,oV 6 50,mo (.bin true .add (.t 49) (.t 50)) 51,oV 51 9] (sR [oV 9 52,oV 1 53,bT .lss 52 53 54] (.cond (.t 54) (.reg [oV 0 55,oV 7 56,oV 9 57,oV 1 58,oV 2 59,mo (.call (.f 132) [(.t 55),(.t 56),(.t 57),(.t 58),(.t 59)] [] []) 60]) .skip))) (.reg [oV 6 61,mo (.bin true .mul (.t 61) (cI 2)) 62,oV 62 6]))))))
def mc_z:MC := (sR [oC 20 6] (sR [oV 6 10,oC 0 7,oV 10 8] (.seq (.block 0 (.loop mc_m)) (sR [oV 0 23,oV 7 24,oV 1 25,oV 2 26,mo (.call (.f 131) [(.t 23),(.t 24),(.t 25),(.t 26)] [1000] []) 27] (.block 2 (.loop mc_1m))))))
instance Wq_slices_stableCmpFunc_api_Command_of_console_Make_4 {data_:List GCommand} {n_:Int}:WI (F_z data_ n_) Tryz.prog 86 [.osl 1000 6 0 data_.length,.int .i64 n_,.fn (.func 47) []] [(1000,.arr 6 (data_.map GCommand.v))] (fun z=>.tup []) (fun z=>[(1000,.arr 6 (z.map GCommand.v))]):=⟨fun Q Q' h hQ=>by
 refine acallM mc_z [] [1000] [] Tryz.func86 fun M=>?_
 unfold F_z at h
 unfold mc_z
 replace h:=tY h
 refine tB ?_
 repeat' (first
 | (exact tZ)
 | ((first|refine oblg h ?_|refine roomG h ?_|refine inbG h ?_|refine incG h ?_|refine divG h ?_|refine appG h ?_|refine appC h ?_|refine fork h ?_ ?_|refine forkS h ?_ ?_)<;>clear h<;>intro hc h)
 | (obtain ⟨y,hy,h⟩:=h;(have hw:=WI.w hy;replace hw:=tY hw;have hlen:=F_5c hy);replace hw:=tY hw;(first|refine M.sC hw ?_|refine M.sD hw ?_);clear hw hy;refine tB ?_)
 | (refine M.wh1 (b:=mc_m) [1,2,6] [] (fun x=>[(0,.osl 1000 6 0 x.2.2.length),(7,.int .i64 x.1),(8,.int .i64 x.2.1)]) (fun x=>[.o 1000 (.arr 6 (x.2.2.map GCommand.v))]) [] h ?_ ?_<;>first
 | (clear h;intro x Qn K hK1 h;unfold F_m at h;unfold mc_m;replace h:=tY h;refine tB ?_)
  |(clear h;(try refine tB ?_);exact tU;done))
 | (refine M.wh1 (b:=mc_1m) [0,1,2,6] [1000] (fun x=>[]) (fun x=>[]) [] h ?_ ?_<;>first
 | (clear h;intro x Qn K hK2 h;unfold F_1m at h;unfold mc_1m;replace h:=tY h;refine tB ?_)
  |(clear h;(try refine tB ?_);exact tU;done))
 | ((first|refine hK1 _ ?_|refine hK2 _ ?_);(try refine tB ?_);refine ⟨_,h,?_⟩;exact tU;done)
 | (refine tE ?_;(first|rw [M.lok_compU]|rw [M.lokD_compU]);refine tB ?_)
 | (refine tA ?_)
 | fail)⟩
theorem F_80 {n_:Int} {s:Int×Int×(List GCommand)} {o:Fl (Int×Int×(List GCommand)) (Int×(List GCommand))} (h:F_m n_ s=some o):o.elim (fun s'=>s'.2.2.length=s.2.2.length) (fun q=>q.2.length=s.2.2.length):=by
 refine (?_:Al _ _) o h
 clear h
 unfold F_m
 repeat' (first|(with_reducible first|exact Al.none|apply Al.chk|apply Al.ite|apply Al.grp)|((with_reducible refine Al.some ?_);simp_all [Fl.elim];done)|((with_reducible first|refine Al.jn fun w h1=>?_|refine Al.bind fun w h1=>?_);(first|(have e1:=F_5c h1)|skip)))
theorem F_7e {data_:List GCommand} {n_:Int} {y:List GCommand} (h:(F_z data_ n_)=some y):y.length=data_.length:=by
 refine (?_:Al _ (fun y=>y.length=data_.length)) y h
 clear h
 unfold F_z
 repeat' (first|(with_reducible first|exact Al.none|apply Al.chk|apply Al.ite|apply Al.grp)|((with_reducible refine Al.some ?_);simp_all [Fl.elim];done)|((with_reducible first|refine Al.jn fun w h1=>?_|refine Al.bind fun w h1=>?_);(first|(have e1:=loop_len (m:=fun s:Int×Int×(List GCommand)=>s.2.2.length) (r:=fun q:(Int×(List GCommand))=>q.2.length) (fun _ _=>F_80) h1)|(have e1:=F_5c h1)|skip)))
noncomputable def F_b (x_:List GCommand):Option (List GCommand) := (F_z x_ (x_.length:Int)).bind fun y1=>some y1
def mc_b:MC := (.reg [oV 0 4,oV 0 5,lE 5 6,oV 1 7,mo (.call (.f 86) [(.t 4),(.t 6),(.t 7)] [1000] []) 8])
instance Wq_slices_SortStableFunc_api_Command_api_Command_of_console_Make_4 {x_:List GCommand}:WI (F_b x_) Tryz.prog 46 [.osl 1000 6 0 x_.length,.fn (.func 47) []] [(1000,.arr 6 (x_.map GCommand.v))] (fun z=>.tup []) (fun z=>[(1000,.arr 6 (z.map GCommand.v))]):=⟨fun Q Q' h hQ=>by
 refine acallM mc_b [] [1000] [] Tryz.func46 fun M=>?_
 unfold F_b at h
 unfold mc_b
 replace h:=tY h
 refine tB ?_
 repeat' (first
 | (exact tZ)
 | ((first|refine oblg h ?_|refine roomG h ?_|refine inbG h ?_|refine incG h ?_|refine divG h ?_|refine appG h ?_|refine appC h ?_|refine fork h ?_ ?_|refine forkS h ?_ ?_)<;>clear h<;>intro hc h)
 | (obtain ⟨y,hy,h⟩:=h;(have hw:=WI.w hy;replace hw:=tY hw;have hlen:=F_7e hy);replace hw:=tY hw;(first|refine M.sC hw ?_|refine M.sD hw ?_);clear hw hy;refine tB ?_)
 | (refine tE ?_;(first|rw [M.lok_compU]|rw [M.lokD_compU]);refine tB ?_)
 | (refine tA ?_)
 | fail)⟩
theorem F_81 {x_:List GCommand} {y:List GCommand} (h:(F_b x_)=some y):y.length=x_.length:=by
 refine (?_:Al _ (fun y=>y.length=x_.length)) y h
 clear h
 unfold F_b
 repeat' (first|(with_reducible first|exact Al.none|apply Al.chk|apply Al.ite|apply Al.grp)|((with_reducible refine Al.some ?_);simp_all [Fl.elim];done)|((with_reducible first|refine Al.jn fun w h1=>?_|refine Al.bind fun w h1=>?_);(first|(have e1:=F_7e h1)|skip)))
def F_2j (c_:GCommand) (names_:List Str) (d_:GDirectory) (a_:GEstate):Option (GDirectory×GEstate) := (F_g names_ c_.Name).bind fun y2=>jn (α:=Bool) (bif decide (c_.Kind=3) then some true else some (decide (c_.Kind=4))) fun j3=>bif j3 then chk (in64 (1+c_.Kind)) (chk (in64 ((1+c_.Kind) - 3)) ((F_g names_ c_.Other).bind fun y4=>chk (room (d_.Events.length+[(GMember.mk c_.Time ((1+c_.Kind) - 3) y2 y4)].length) 32) (some ((GDirectory.mk d_.Kinds (d_.Events++[(GMember.mk c_.Time ((1+c_.Kind) - 3) y2 y4)])),(GEstate.mk a_.Places a_.Events))))) else jn (α:=Bool) (bif decide (c_.Kind=5) then some true else some (decide (c_.Kind=6))) fun j5=>bif j5 then chk (in64 (1+c_.Kind)) (chk (in64 ((1+c_.Kind) - 5)) (chk (room (a_.Events.length+[(GAccess.mk c_.Time ((1+c_.Kind) - 5) c_.A y2 0 0 0)].length) 56) (some ((GDirectory.mk d_.Kinds d_.Events),(GEstate.mk a_.Places (a_.Events++[(GAccess.mk c_.Time ((1+c_.Kind) - 5) c_.A y2 0 0 0)])))))) else bif decide (c_.Kind=7) then chk (room (a_.Events.length+[(GAccess.mk c_.Time 3 c_.A 0 c_.B 0 0)].length) 56) (some ((GDirectory.mk d_.Kinds d_.Events),(GEstate.mk a_.Places (a_.Events++[(GAccess.mk c_.Time 3 c_.A 0 c_.B 0 0)])))) else bif decide (c_.Kind=8) then chk (room (a_.Events.length+[(GAccess.mk c_.Time 5 c_.B 0 0 c_.A 0)].length) 56) (some ((GDirectory.mk d_.Kinds d_.Events),(GEstate.mk a_.Places (a_.Events++[(GAccess.mk c_.Time 5 c_.B 0 0 c_.A 0)])))) else bif decide (c_.Kind=9) then chk (room (a_.Events.length+[(GAccess.mk c_.Time 7 c_.B 0 0 0 c_.A)].length) 56) (some ((GDirectory.mk d_.Kinds d_.Events),(GEstate.mk a_.Places (a_.Events++[(GAccess.mk c_.Time 7 c_.B 0 0 0 c_.A)])))) else some ((GDirectory.mk d_.Kinds d_.Events),(GEstate.mk a_.Places a_.Events))
@[irreducible] def mc_7f:MC := (.cond (.t 39) (.regD [oV 3 42,oV 3 43,mo (.nck (.t 43)) 44,oF 1 44 45,oL 45 46,oF 3 4 47,oL 47 48,oF 0 4 49,oL 49 50,mo (.bin true .add (cI 1) (.t 50)) 51,sI 51 5 52,oF 4 4 53,oL 53 54,oV 8 55,mo (.build [(.int .i64 0),(.int .i64 0),(.int .i64 0),(.int .i64 0),(.int .i64 0),(.int .i64 0),(.int .i64 0)] [(0,1,(.t 48)),(1,1,(.t 52)),(2,1,(.t 54)),(3,1,(.t 55))]) 56,mo (.bslice 7 [(.t 56)]) 57,ap 7 56 46 57 58,mo (.nck (.t 42)) 59,oF 1 59 60,⟨.st 1 (.t 60) (.t 58),none,none⟩] [[],[],[1],[2],[3],[],[5],[],[7],[8],[9],[],[11],[],[6,10,12,13],[14],[4,15],[0,0,1,2,3,4,5,6,7,8,9,10,11,12,13,14,15,16],[17,0,1,2,3,4,5,6,7,8,9,10,11,12,13,14,15,16],[18,16,16,0,1,2,3,4,5,6,7,8,9,10,11,12,13,14,15,16]] [[],[],[1],[1,2],[1,2,3],[],[5],[],[7],[7,8],[7,8,9],[],[11],[],[5,6,7,8,9,10,11,12,13],[5,6,7,8,9,10,11,12,13,14],[1,2,3,4,5,6,7,8,9,10,11,12,13,14,15],[0,1,2,3,4,5,6,7,8,9,10,11,12,13,14,15,16],[0,1,2,3,4,5,6,7,8,9,10,11,12,13,14,15,16,17],[0,1,2,3,4,5,6,7,8,9,10,11,12,13,14,15,16,17,18]]) (sR [bC .eql 14 7 62,oV 62 61] (.cond (.t 61) (.regD [oV 3 63,oV 3 64,mo (.nck (.t 64)) 65,oF 1 65 66,oL 66 67,oF 3 4 68,oL 68 69,oF 4 4 70,oL 70 71,oF 5 4 72,oL 72 73,mo (.build [(.int .i64 0),(.int .i64 0),(.int .i64 0),(.int .i64 0),(.int .i64 0),(.int .i64 0),(.int .i64 0)] [(0,1,(.t 69)),(1,1,(cI 3)),(2,1,(.t 71)),(4,1,(.t 73))]) 74,mo (.bslice 7 [(.t 74)]) 75,ap 7 56 67 75 76,mo (.nck (.t 63)) 77,oF 1 77 78,⟨.st 1 (.t 78) (.t 76),none,none⟩] [[],[],[1],[2],[3],[],[5],[],[7],[],[9],[6,8,10],[11],[4,12],[0,0,1,2,3,4,5,6,7,8,9,10,11,12,13],[14,0,1,2,3,4,5,6,7,8,9,10,11,12,13],[15,13,13,0,1,2,3,4,5,6,7,8,9,10,11,12,13]] [[],[],[1],[1,2],[1,2,3],[],[5],[],[7],[],[9],[5,6,7,8,9,10],[5,6,7,8,9,10,11],[1,2,3,4,5,6,7,8,9,10,11,12],[0,1,2,3,4,5,6,7,8,9,10,11,12,13],[0,1,2,3,4,5,6,7,8,9,10,11,12,13,14],[0,1,2,3,4,5,6,7,8,9,10,11,12,13,14,15]]) (sR [bC .eql 14 8 80,oV 80 79] (.cond (.t 79) (.regD [oV 3 81,oV 3 82,mo (.nck (.t 82)) 83,oF 1 83 84,oL 84 85,oF 3 4 86,oL 86 87,oF 4 4 88,oL 88 89,oF 5 4 90,oL 90 91,mo (.build [(.int .i64 0),(.int .i64 0),(.int .i64 0),(.int .i64 0),(.int .i64 0),(.int .i64 0),(.int .i64 0)] [(0,1,(.t 87)),(1,1,(cI 5)),(5,1,(.t 89)),(2,1,(.t 91))]) 92,mo (.bslice 7 [(.t 92)]) 93,ap 7 56 85 93 94,mo (.nck (.t 81)) 95,oF 1 95 96,⟨.st 1 (.t 96) (.t 94),none,none⟩] [[],[],[1],[2],[3],[],[5],[],[7],[],[9],[6,8,10],[11],[4,12],[0,0,1,2,3,4,5,6,7,8,9,10,11,12,13],[14,0,1,2,3,4,5,6,7,8,9,10,11,12,13],[15,13,13,0,1,2,3,4,5,6,7,8,9,10,11,12,13]] [[],[],[1],[1,2],[1,2,3],[],[5],[],[7],[],[9],[5,6,7,8,9,10],[5,6,7,8,9,10,11],[1,2,3,4,5,6,7,8,9,10,11,12],[0,1,2,3,4,5,6,7,8,9,10,11,12,13],[0,1,2,3,4,5,6,7,8,9,10,11,12,13,14],[0,1,2,3,4,5,6,7,8,9,10,11,12,13,14,15]]) (sR [bC .eql 14 9 98,oV 98 97] (.cond (.t 97) (.note (.gc [3,4]) (.regD [oV 3 99,oV 3 100,mo (.nck (.t 100)) 101,oF 1 101 102,oL 102 103,oF 3 4 104,oL 104 105,oF 4 4 106,oL 106 107,oF 5 4 108,oL 108 109,mo (.build [(.int .i64 0),(.int .i64 0),(.int .i64 0),(.int .i64 0),(.int .i64 0),(.int .i64 0),(.int .i64 0)] [(0,1,(.t 105)),(1,1,(cI 7)),(6,1,(.t 107)),(2,1,(.t 109))]) 110,mo (.bslice 7 [(.t 110)]) 111,ap 7 56 103 111 112,mo (.nck (.t 99)) 113,oF 1 113 114,⟨.st 1 (.t 114) (.t 112),none,none⟩] [[],[],[1],[2],[3],[],[5],[],[7],[],[9],[6,8,10],[11],[4,12],[0,0,1,2,3,4,5,6,7,8,9,10,11,12,13],[14,0,1,2,3,4,5,6,7,8,9,10,11,12,13],[15,13,13,0,1,2,3,4,5,6,7,8,9,10,11,12,13]] [[],[],[1],[1,2],[1,2,3],[],[5],[],[7],[],[9],[5,6,7,8,9,10],[5,6,7,8,9,10,11],[1,2,3,4,5,6,7,8,9,10,11,12],[0,1,2,3,4,5,6,7,8,9,10,11,12,13],[0,1,2,3,4,5,6,7,8,9,10,11,12,13,14],[0,1,2,3,4,5,6,7,8,9,10,11,12,13,14,15]])) .skip)))))))
@[irreducible] def mc_7g:MC := (.cond (.t 15) (.regD [oV 2 18,oV 2 19,mo (.nck (.t 19)) 20,oF 1 20 21,oL 21 22,oF 3 4 23,oL 23 24,oF 0 4 25,oL 25 26,mo (.bin true .add (cI 1) (.t 26)) 27,sI 27 3 28,oV 8 29,oV 1 30,oF 2 4 31,oL 31 32,k2 32 30 32 33,mo (.build [(.int .i64 0),(.int .i64 0),(.int .i64 0),(.int .i64 0)] [(0,1,(.t 24)),(1,1,(.t 28)),(2,1,(.t 29)),(3,1,(.t 33))]) 34,mo (.bslice 4 [(.t 34)]) 35,ap 4 32 22 35 36,mo (.nck (.t 18)) 37,oF 1 37 38,⟨.st 1 (.t 38) (.t 36),none,none⟩] [[],[],[1],[2],[3],[],[5],[],[7],[8],[9],[],[],[],[13],[12,14],[6,10,11,15],[16],[4,17,15],[0,0,1,2,3,4,5,6,7,8,9,10,11,12,13,14,15,16,17,18],[19,0,1,2,3,4,5,6,7,8,9,10,11,12,13,14,15,16,17,18],[20,18,18,0,1,2,3,4,5,6,7,8,9,10,11,12,13,14,15,16,17,18]] [[],[],[1],[1,2],[1,2,3],[],[5],[],[7],[7,8],[7,8,9],[],[],[],[13],[12,13,14],[5,6,7,8,9,10,11,12,13,14,15],[5,6,7,8,9,10,11,12,13,14,15,16],[1,2,3,4,5,6,7,8,9,10,11,12,13,14,15,16,17],[0,1,2,3,4,5,6,7,8,9,10,11,12,13,14,15,16,17,18],[0,1,2,3,4,5,6,7,8,9,10,11,12,13,14,15,16,17,18,19],[0,1,2,3,4,5,6,7,8,9,10,11,12,13,14,15,16,17,18,19,20]]) (.cut (sR [bC .eql 14 5 40,oV 40 39] (.cond (.t 39) .skip (.reg [bC .eql 14 6 41,oV 41 39]))) mc_7f))
def mc_2j:MC := (sR [bx 0 4] (sR [oV 1 9,oF 1 4 10,oL 10 11,k2 32 9 11 12,oV 12 8] (sR [oF 0 4 13,oL 13 14] (.block 0 (.cut (sR [bC .eql 14 3 16,oV 16 15] (.cond (.t 15) .skip (.reg [bC .eql 14 4 17,oV 17 15]))) mc_7g)))))
instance:LI mc_7f 0 0 [3,4,8,14] [4,1002,1003,1000,1001] (fun y:Bool=>[(39,.bool y)]) (fun y=>[]) []:=⟨⟩
instance:LI mc_7g 0 0 [1,2,3,4,8,14] [4,1002,1003,1000,1001] (fun y:Bool=>[(15,.bool y)]) (fun y=>[]) []:=⟨⟩
instance Wq_console_event {c_:GCommand} {names_:List Str} {d_:GDirectory} {a_:GEstate}:WI (F_2j c_ names_ d_ a_) Tryz.prog 48 [GCommand.v c_,.sl (names_.map V.str),.ptr 1000 0,.ptr 1002 0] [(1000,.cells [.sl (d_.Kinds.map (V.int .i64)),.osl 1001 4 0 d_.Events.length]),(1001,.arr 4 (d_.Events.map GMember.v)),(1002,.cells [.int .i64 a_.Places,.osl 1003 7 0 a_.Events.length]),(1003,.arr 7 (a_.Events.map GAccess.v))] (fun z=>.tup []) (fun z=>[(1000,.cells [.sl (z.1.Kinds.map (V.int .i64)),.osl 1701 4 0 z.1.Events.length]),(1701,.arr 4 (z.1.Events.map GMember.v)),(1002,.cells [.int .i64 z.2.Places,.osl 1733 7 0 z.2.Events.length]),(1733,.arr 7 (z.2.Events.map GAccess.v))]):=⟨fun Q Q' h hQ=>by
 refine acallM mc_2j [.ownC 1000 1 1701 4 none,.ownC 1002 1 1733 7 none] [1000,1701,1002,1733] [] Tryz.func48 fun M=>?_
 unfold F_2j at h
 unfold mc_2j
 exact tX⟩
noncomputable def F_10 (y10:(List Int)×(List Str)) (k68:Int) (a69:GCommand) (x67:Int×(List GAccess)×(List Int)×(List GMember)):Option (Int×(List GAccess)×(List Int)×(List GMember)) := (F_2j a69 y10.2 (GDirectory.mk x67.2.2.1 x67.2.2.2) (GEstate.mk x67.1 x67.2.1)).bind fun y73=>some (y73.2.Places,y73.2.Events,y73.1.Kinds,y73.1.Events)
noncomputable def F_n (l_:List GCommand):Option (GDirectory×GEstate×(List Str)×Int) := (F_2d l_).bind fun y6=>bif (!decide (y6=0)) then (F_2 y6).bind fun y8=>some (y8.1,y8.2.1,y8.2.2.1,y8.2.2.2) else (F_2f l_).bind fun y10=>(valsF y10.2).bind fun y13=>(F_2g y10.2).bind fun y14=>(compactS y14).bind fun y26=>bif decide ((y26.1:Int)<(y10.2.length:Int)) then (F_2 7).bind fun y28=>some (y28.1,y28.2.1,y28.2.2.1,y28.2.2.2) else (F_2i l_ y10.2).bind fun y30=>bif y30 then (F_2 6).bind fun y32=>some (y32.1,y32.2.1,y32.2.2.1,y32.2.2.2) else bif decide (24<(y10.2.length:Int)) then (F_2 3).bind fun y34=>some (y34.1,y34.2.1,y34.2.2.1,y34.2.2.2) else (F_1k l_).bind fun y36=>(F_b y36).bind fun y38=>(foldL (F_10 y10) y38 0 (16,[],y10.1,[])).bind fun x74=>(F_9 (GDirectory.mk x74.2.2.1 x74.2.2.2)).bind fun y80=>bif (!decide (y80=0)) then (F_2 y80).bind fun y82=>some (y82.1,y82.2.1,y82.2.2.1,y82.2.2.2) else (F_3 (GEstate.mk x74.1 x74.2.1)).bind fun y88=>bif (!decide (y88=0)) then (F_2 y88).bind fun y90=>some (y90.1,y90.2.1,y90.2.2.1,y90.2.2.2) else some ((GDirectory.mk x74.2.2.1 x74.2.2.2),(GEstate.mk x74.1 x74.2.1),y10.2,0)
@[irreducible] def mc_10:MC := (sR [bT .lss 82 81 83] (.seq (.cond (.t 83) .skip (.exit 1)) (.seq (.block 2 (sR [iA 6 80 82 84,lN 6 84 85,mo (.alloc [(.int .i64 0),(.str []),(.str []),(.int .i64 0),(.int .i64 0),(.int .i64 0)]) 16,⟨.st 6 (.t 16) (.t 85),none,none⟩] (.regI [.op (lN 6 16 86),.op (oL 11 87),.nt (.ownC 6 1 7193 4 none),.nt (.ownC 7 1 7225 7 none),.op (mo (.call (.f 48) [(.t 86),(.t 87),(.t 6),(.t 7)] [6,7193,7,7225] [13633,13649]) 88)]))) (.reg [aI 82 1 89,oV 89 82]))))
def mc_n:MC := (sR [mo (.alloc [(.sl []),(.sl [])]) 2,mo (.alloc [(.int .i64 0),(.sl [])]) 3,mo (.mv (.c (.sl []))) 4,oC 0 5] (sR [mo (.build [.nils,.nils] []) 19,mo (.build [(.int .i64 0),.nils] [(0,1,(cI 16))]) 20,mo (.alloc [(.sl []),(.sl [])]) 6,mo (.alloc [(.int .i64 0),(.sl [])]) 7,⟨.st 2 (.t 6) (.t 19),none,none⟩,⟨.st 2 (.t 7) (.t 20),none,none⟩] (sR [mo (.mv (.f 35)) 8] (.seq (sR [oV 0 21,k1 36 21 22,oV 22 9] (sR [oV 9 23,bC .neq 23 0 24] (.cond (.t 24) (.seq (.note (.gc [2,3,8,9]) (.reg [oV 8 25,oV 9 26,mo (.call (.t 25) [(.t 26)] [] []) 27,xT 0 27 28,xT 1 27 29,xT 2 27 30,xT 3 27 31,⟨.st 2 (.t 2) (.t 28),none,none⟩,⟨.st 2 (.t 3) (.t 29),none,none⟩,oV 30 4,oV 31 5])) .ret) .skip))) (.seq (.note (.gc [0,2,3,6,7,8]) (.reg [oV 0 33,k1 37 33 34,oV 34 32,xT 0 32 35,xT 1 32 36,mo (.alloc [(.sl [])]) 11,oV 35 10,⟨.st 1 (.t 11) (.t 36),none,none⟩])) (sR [oL 11 37,k1 39 37 38,mo (.call (.f 38) [(.t 38)] [] [39]) 39,oV 39 12] (.seq (.note (.gc [0,2,3,6,7,8,10,11,12]) (.reg [mo (.mkfn 40 [(.t 11)]) 40,mo (.alloc [.nilf]) 13,⟨.st 1 (.t 13) (.t 40),none,none⟩])) (.seq (.block 0 (.seq (.regD [oV 12 42,mo (.call (.f 42) [(.t 42)] [39] []) 43,lE 43 44,oL 11 45,lE 45 46,bT .lss 44 46 47,oV 47 41] [[],[0],[1],[],[3],[2,4],[5,1]] [[],[0],[0,1],[],[3],[0,1,2,3,4],[0,1,2,3,4,5]]) (.cond (.t 41) (.seq (.note (.gc [2,3,8]) (.reg [oV 8 48,mo (.call (.t 48) [(cI 7)] [] []) 49,xT 0 49 50,xT 1 49 51,xT 2 49 52,xT 3 49 53,⟨.st 2 (.t 2) (.t 50),none,none⟩,⟨.st 2 (.t 3) (.t 51),none,none⟩,oV 52 4,oV 53 5])) .ret) (.seq (.note (.gc [0,2,3,6,7,8,10,11,13]) (.reg [oV 0 55,mo (.mkfn 44 [(.t 13)]) 56,mo (.call (.f 43) [(.t 55),(.t 56)] [13,11] []) 57,oV 57 54])) (.cond (.t 54) (.seq (.note (.gc [2,3,8]) (.reg [oV 8 58,mo (.call (.t 58) [(cI 6)] [] []) 59,xT 0 59 60,xT 1 59 61,xT 2 59 62,xT 3 59 63,⟨.st 2 (.t 2) (.t 60),none,none⟩,⟨.st 2 (.t 3) (.t 61),none,none⟩,oV 62 4,oV 63 5])) .ret) (sR [oL 11 65,lE 65 66,bC .gtr 66 24 67,oV 67 64] (.cond (.t 64) (.seq (.note (.gc [2,3,8]) (.reg [oV 8 68,mo (.call (.t 68) [(cI 3)] [] []) 69,xT 0 69 70,xT 1 69 71,xT 2 69 72,xT 3 69 73,⟨.st 2 (.t 2) (.t 70),none,none⟩,⟨.st 2 (.t 3) (.t 71),none,none⟩,oV 72 4,oV 73 5])) .ret) .skip))))))) (.seq (.note (.gc [0,2,3,6,7,8,10,11]) (.reg [oV 10 74,oF 0 6 75,⟨.st 1 (.t 75) (.t 74),none,none⟩])) (sR [oV 0 76,mo (.call (.f 45) [(.t 76)] [] [77]) 77,oV 77 14] (sR [oV 14 78,mo (.call (.f 46) [(.t 78),(.f 47)] [77] []) 79] (.seq (.seq (.note (.gc [2,3,6,7,8,11,14]) (.reg [oV 14 80,lE 80 81,oC 0 82])) (.block 1 (.loop mc_10))) (.seq (.seq (.regI [.op (lN 2 6 90),.nt (.fz 90),.op (k1 49 90 91),.op (oV 91 17)]) (sR [oV 17 92,bC .neq 92 0 93] (.cond (.t 93) (.seq (.note (.gc [2,3,8,17]) (.reg [oV 8 94,oV 17 95,mo (.call (.t 94) [(.t 95)] [] []) 96,xT 0 96 97,xT 1 96 98,xT 2 96 99,xT 3 96 100,⟨.st 2 (.t 2) (.t 97),none,none⟩,⟨.st 2 (.t 3) (.t 98),none,none⟩,oV 99 4,oV 100 5])) .ret) .skip))) (.seq (.seq (.note (.gc [2,3,6,7,8,11]) (.regI [.op (lN 2 7 101),.nt (.fz 101),.op (k1 50 101 102),.op (oV 102 18)])) (sR [oV 18 103,bC .neq 103 0 104] (.cond (.t 104) (sR [oV 8 105,oV 18 106,mo (.call (.t 105) [(.t 106)] [] []) 107,xT 0 107 108,xT 1 107 109,xT 2 107 110,xT 3 107 111,⟨.st 2 (.t 2) (.t 108),none,none⟩,⟨.st 2 (.t 3) (.t 109),none,none⟩,oV 110 4,oV 111 5] .ret) .skip))) (.seq (.regD [lN 2 6 112,lN 2 7 113,oL 11 114,⟨.st 2 (.t 2) (.t 112),none,none⟩,⟨.st 2 (.t 3) (.t 113),none,none⟩,oV 114 4,oC 0 5] [[],[],[],[0,0],[1,3,0,1,3],[2,4,0,1,2,3,4],[5,0,1,2,3,4,5]] [[],[],[],[0],[0,1,3],[0,1,2,3,4],[0,1,2,3,4,5]]) .ret)))))))))))))))
instance Wq_console_Make {l_:List GCommand}:WI (F_n l_) Tryz.prog 13 [.sl (l_.map GCommand.v)] [] (fun z=>.tup [GDirectory.v z.1,GEstate.v z.2.1,.sl (z.2.2.1.map V.str),.int .i64 z.2.2.2]) (fun z=>[]):=⟨fun Q Q' h hQ=>by
 refine acallM mc_n [.fzc 2,.fzc 3,.fz 4] [] [.c 2 (some 2),.c 3 (some 2),.t 4,.t 5] Tryz.func13 fun M=>?_
 unfold F_n at h
 unfold mc_n
 replace h:=tY h
 refine tB ?_
 repeat' (first
 | (exact tZ)
 | (refine And.intro (by refine ⟨?_,?_,?_,?_⟩<;>omega) ?_;first|exact hQ _ h|(rw [zP (by omega)];exact hQ _ h))
 | (rw [←hlen];exact hQ _ h)
 | (have hq:=hQ _ h;simp only [xX,Nat.min_eq_left hlen.1] at hq;exact hq)
 | ((first|refine oblg h ?_|refine roomG h ?_|refine inbG h ?_|refine incG h ?_|refine divG h ?_|refine appG h ?_|refine appC h ?_|refine fork h ?_ ?_|refine forkS h ?_ ?_)<;>clear h<;>intro hc h)
 | (obtain ⟨y,hy,h⟩:=h;(first|have hw:=acall_swe 1900 39 (Wq_slices_Sorted_string_of_slices_Values_string_string_1.c.w hy)|(have hw:=acall_swe 1000 39 (W_7o hy);replace hw:=tY hw;(try simp only [hlen] at hw);have hlen:=compactS_len hy)|have hw:=acall_swe 1001 11 (acall_swe 1000 13 (Wq_slices_ContainsFunc_api_Command_api_Command_of_console_Make_3.c.w hy))|have hw:=acall_swe 1900 77 (Wq_slices_Clone_api_Command_api_Command.c.w hy)|(have hw:=acall_swe 1000 77 (Wq_slices_SortStableFunc_api_Command_api_Command_of_console_Make_4.c.w hy);replace hw:=tY hw;have hlen:=F_81 hy)|have hw:=acall_swe 1733 13649 (acall_swe 1701 13633 (acall_swe 1003 7225 (acall_swe 1002 7 (acall_swe 1001 7193 (acall_swe 1000 6 (Wq_console_event.c.w hy))))))|have hw:=WI.w hy|have hw:=W_7s hy);replace hw:=tY hw;(first|refine M.sC hw ?_|refine M.sD hw ?_);clear hw hy;refine tB ?_)
 | (refine M.fold1 (b:=mc_10) 82 [2,3,6,7,8,11,80,81] [77,11,3,2] (fun x=>[]) (fun x=>[.o 7 (.cells [.int .i64 x.1,.osl 4113 7 0 x.2.1.length]),.o 4113 (.arr 7 (x.2.1.map GAccess.v)),.o 6 (.cells [.sl (x.2.2.1.map (V.int .i64)),.osl 4097 4 0 x.2.2.2.length]),.o 4097 (.arr 4 (x.2.2.2.map GMember.v))]) [.gc [2,3,6,7,8,11,80,81,82],.ownC 7 1 4113 7 none,.ownC 6 1 4097 4 none] h ?_ ?_ ?_<;>first
 | (clear h;intro k a x Qn K hK1 hkN1 ha1 h hf;have hl:=fact_int (factsE_find (n:=81) hf.1 rfl);clear hf;have hkd:=kD hkN1;have hkB1:=kB hkN1;have hkI1:=kI (k:=k) (by omega);(try simp only [hlen] at hkd hkB1 hkN1);unfold F_10 at h;unfold mc_10;replace h:=tY h;refine tK ha1 hkd hkN1 hkB1 hkI1 ?_)
  |(clear h;intro x K h;replace h:=And.left (And.intro h trivial);(try simp only [hlen]);unfold mc_10;replace h:=tY h;refine tB ?_)
  |(clear h;(try refine tB ?_);exact tU;done))
 | (simp only [ha1])
 | (refine hK1 _ ?_;(try refine tB ?_);refine ⟨_,h,?_⟩;exact tU;done)
 | (refine tE ?_;(first|rw [M.lok_compU]|rw [M.lokD_compU]);refine tB ?_)
 | (refine tA ?_)
 | fail)⟩
noncomputable def F_2k (names_:List Str) (k19:Int) (a20:Int) (x18:Str):Option Str := chk (inb a20 names_.length) (chk (strl ([32].length+(names_.getD (a20).toNat default).length)) (chk (strl (x18.length+(([32]:Str)++(names_.getD (a20).toNat default)).length)) (some (x18++(([32]:Str)++(names_.getD (a20).toNat default))))))
noncomputable def F_1n (c_:GCommand) (d_:GDirectory) (a_:GEstate) (names_:List Str):Option Str := (F_19 d_ a_ c_.A c_.Time).bind fun y2=>jn (α:=Str) (bif y2.1.Public then some [112,117,98,108,105,99] else some [105,110,115,105,100,101]) fun j3=>(foldL (F_2k names_) y2.1.Principals 0 j3).bind fun x21=>some x21
@[irreducible] def mc_2k:MC := (sR [bT .lss 29 28 30] (.seq (.cond (.t 30) .skip (.exit 0)) (.seq (.block 1 (sR [iA 1 27 29 31,oL 31 32,oV 32 13] (.reg [oV 11 33,oV 3 34,oV 13 35,iA 1 34 35 36,oL 36 37,mo (.bin false .add (.c (.str [32])) (.t 37)) 38,bT .add 33 38 39,oV 39 11]))) (.reg [aI 29 1 40,oV 40 29]))))
@[irreducible] def mc_7h:MC := (.seq (sR [oF 1 9 26,oL 26 27,lE 27 28,oC 0 29] (.block 0 (.loop mc_2k))) (sR [oV 11 41,oV 41 8] .ret))
def mc_1n:MC := (sR [bx 0 4,bx 1 5,bx 2 6,mo (.mv (.c (.str []))) 8] (sR [lN 2 5 15,lN 2 6 16,oF 4 4 17,oL 17 18,oF 3 4 19,oL 19 20,mo (.call (.f 78) [(.t 15),(.t 16),(.t 18),(.t 20)] [] []) 21,oV 21 14,xT 0 14 22,xT 1 14 23,mo (.alloc [(.bool false),(.sl [])]) 9,⟨.st 2 (.t 9) (.t 22),none,none⟩,oV 23 10] (sR [mo (.mv (.c (.str [105,110,115,105,100,101]))) 11] (.cut (sR [oF 0 9 24,oL 24 25] (.cond (.t 25) (.reg [mo (.mv (.c (.str [112,117,98,108,105,99]))) 11]) .skip)) mc_7h))))
attribute [go_sem] F_2k
instance:LI mc_2k 29 28 [3,27,28] [] (fun y:Str=>[(11,.str y)]) (fun y=>[]) []:=⟨⟩
instance:LI mc_7h 0 0 [3,9] [9] (fun y:Str=>[(11,.str y)]) (fun y=>[]) []:=⟨⟩
instance Wq_console_who {c_:GCommand} {d_:GDirectory} {a_:GEstate} {names_:List Str}:WI (F_1n c_ d_ a_ names_) Tryz.prog 30 [GCommand.v c_,GDirectory.v d_,GEstate.v a_,.sl (names_.map V.str)] [] (fun z=>.str z) (fun z=>[]):=⟨fun Q Q' h hQ=>by
 refine acallM mc_1n [] [] [.t 8] Tryz.func30 fun M=>?_
 unfold F_1n at h
 unfold mc_1n
 exact tX⟩
noncomputable def F_o (y2:GDirectory×GEstate×(List Str)×Int) (k144:Int) (a145:GCommand) (x143:List UInt8):Option (List UInt8) := bif decide (a145.Kind=10) then (F_1n a145 y2.1 y2.2.1 y2.2.2.1).bind fun y173=>chk (strl (y173.length+[10].length)) ((bws x143 (y173++[10])).bind fun y174=>some y174) else bif decide (a145.Kind=11) then jn (α:=Str) ((F_g y2.2.2.1 a145.Name).bind fun y183=>(F_v y2.1 y2.2.1 a145.A y183).bind fun y184=>bif y184.2 then (itoaI y184.1).bind fun y185=>some y185 else some [110,101,118,101,114]) fun j180=>chk (strl (j180.length+[10].length)) ((bws x143 (j180++[10])).bind fun y186=>some y186) else some x143
noncomputable def F_h (l_:List GCommand):Option (Str×Int) := (F_n l_).bind fun y2=>bif (!decide (y2.2.2.2=0)) then some ([],y2.2.2.2) else (foldL (F_o y2) l_ 0 ([]:Str)).bind fun x187=>(bstr x187).bind fun y189=>some (y189,0)
@[irreducible] def mc_5d:MC := (.reg [oV 11 58,mo (.bin false .add (.t 58) (.c (.str [10]))) 59,mo (.call (.f 29) [(.t 8),(.t 59)] [8,4129] [11841]) 60])
@[irreducible] def mc_o:MC := (sR [bT .lss 26 25 27] (.seq (.cond (.t 27) .skip (.exit 0)) (.seq (.block 1 (sR [iA 6 24 26 28,lN 6 28 29,mo (.alloc [(.int .i64 0),(.str []),(.str []),(.int .i64 0),(.int .i64 0),(.int .i64 0)]) 10,⟨.st 6 (.t 10) (.t 29),none,none⟩] (sR [oF 0 10 30,oL 30 31] (.block 2 (sR [bC .eql 31 10 33,oV 33 32] (.cond (.t 32) (.reg [lN 6 10 34,lN 2 4 35,lN 2 5 36,oV 6 37,mo (.call (.f 30) [(.t 34),(.t 35),(.t 36),(.t 37)] [] []) 38,mo (.bin false .add (.t 38) (.c (.str [10]))) 39,mo (.call (.f 29) [(.t 8),(.t 39)] [8,4129] [10561]) 40]) (sR [bC .eql 31 11 42,oV 42 41] (.cond (.t 41) (sR [mo (.mv (.c (.str [110,101,118,101,114]))) 11] (.cut (.seq (.note (.gc [4,5,6,8,10,11,24,25,26]) (.regD [lN 2 4 44,lN 2 5 45,oF 4 10 46,oL 46 47,oV 6 48,oF 1 10 49,oL 49 50,k2 32 48 50 51,mo (.call (.f 31) [(.t 44),(.t 45),(.t 47),(.t 51)] [] []) 52,oV 52 43,xT 0 43 53,xT 1 43 54,oV 53 12,oV 54 13] [[],[],[],[2],[],[],[5],[4,6],[0,1,3,7,7],[8],[9],[9],[10,8,0,1,2,3,4,5,6,7,8,9,10],[11,12,0,1,2,3,4,5,6,7,8,9,10,11,12]] [[],[],[],[2],[],[],[5],[4,5,6],[0,1,2,3,4,5,6,7],[0,1,2,3,4,5,6,7,8],[0,1,2,3,4,5,6,7,8,9],[0,1,2,3,4,5,6,7,8,9],[0,1,2,3,4,5,6,7,8,9,10],[0,1,2,3,4,5,6,7,8,9,10,11,12]])) (sR [oV 13 55] (.cond (.t 55) (.note (.gc [4,5,6,8,12,24,25,26]) (.reg [oV 12 56,k1 33 56 57,oV 57 11])) .skip))) mc_5d)) .skip)))))))) (.reg [aI 26 1 61,oV 61 26]))))
def mc_h:MC := (sR [mo (.mv (.c (.str []))) 2,oC 0 3] (sR [oV 0 15,k1 13 15 16,oV 16 14,xT 0 14 17,xT 1 14 18,xT 2 14 19,xT 3 14 20,mo (.alloc [(.sl []),(.sl [])]) 4,mo (.alloc [(.int .i64 0),(.sl [])]) 5,⟨.st 2 (.t 4) (.t 17),none,none⟩,⟨.st 2 (.t 5) (.t 18),none,none⟩,oV 19 6,oV 20 7] (.seq (sR [oV 7 21,bC .neq 21 0 22] (.cond (.t 22) (.seq (.note (.gc [7]) (.reg [oV 7 23,mo (.mv (.c (.str []))) 2,oV 23 3])) .ret) .skip)) (.seq (.regI [.op (mo (.alloc [.nilp,.nils] (some 65)) 8),.nt (.bld 8),.nt (.ownC 8 1 5008 1 (some 5))]) (.seq (.seq (.note (.gc [0,4,5,6,8]) (.reg [oV 0 24,lE 24 25,oC 0 26])) (.block 0 (.loop mc_o))) (sR [mo (.call (.f 34) [(.t 8)] [8,4129] []) 62,oV 62 2,oC 0 3] .ret))))))
instance Wq_console_Run {l_:List GCommand}:WI (F_h l_) Tryz.prog 12 [.sl (l_.map GCommand.v)] [] (fun z=>.tup [.str z.1,.int .i64 z.2]) (fun z=>[]):=⟨fun Q Q' h hQ=>by
 refine acallM mc_h [] [] [.t 2,.t 3] Tryz.func12 fun M=>?_
 unfold F_h at h
 unfold mc_h
 replace h:=tY h
 refine tB ?_
 repeat' (first
 | (exact tZ)
 | ((first|refine oblg h ?_|refine roomG h ?_|refine inbG h ?_|refine incG h ?_|refine divG h ?_|refine appG h ?_|refine appC h ?_|refine fork h ?_ ?_|refine forkS h ?_ ?_)<;>clear h<;>intro hc h)
 | (obtain ⟨y,hy,h⟩:=h;have hw:=acall_swe 1002 10561 (acall_swe 1001 5008 (acall_swe 1000 8 (W_4t hy)));replace hw:=tY hw;(first|refine M.sC hw ?_|refine M.sD hw ?_);clear hw hy;refine tB ?_)
 | (obtain ⟨y,hy,h⟩:=h;have hw:=acall_swe 1002 11841 (acall_swe 1001 5008 (acall_swe 1000 8 (W_4t hy)));replace hw:=tY hw;(first|refine M.sC hw ?_|refine M.sD hw ?_);clear hw hy;refine tB ?_)
 | (obtain ⟨y,hy,h⟩:=h;have hw:=acall_swe 1002 10561 (acall_swe 1001 4129 (acall_swe 1000 8 (W_4t hy)));replace hw:=tY hw;(first|refine M.sC hw ?_|refine M.sD hw ?_);clear hw hy;refine tB ?_)
 | (obtain ⟨y,hy,h⟩:=h;have hw:=acall_swe 1002 11841 (acall_swe 1001 4129 (acall_swe 1000 8 (W_4t hy)));replace hw:=tY hw;(first|refine M.sC hw ?_|refine M.sD hw ?_);clear hw hy;refine tB ?_)
 | (obtain ⟨y,hy,h⟩:=h;(first|have hw:=acall_swe 1001 4129 (acall_swe 1000 8 (W_7m hy))|have hw:=WI.w hy|have hw:=W_4y hy);replace hw:=tY hw;(first|refine M.sC hw ?_|refine M.sD hw ?_);clear hw hy;refine tB ?_)
 | (refine M.jn1 (b:=mc_5d) [4,5,6,8,24,25,26] [8,4129,5,4] (fun y=>[(11,.str y)]) (fun y=>[]) [] h ?_ ?_<;>first
 | (clear h;intro Qn K hK1 h;replace h:=tY h;refine tB ?_)
  |(clear h;intro y h;unfold mc_5d;replace h:=tY h;refine tB ?_))
 | (refine M.fold1 (b:=mc_o) 26 [4,5,6,8,24,25] [8,5,4] (fun x=>[]) (fun x=>[.p 8 1 [.osl 4129 1 0 x.length],.o 4129 (.arr 1 (x.map byteV) (some 5))]) [.gc [4,5,6,8,24,25,26],.ownC 8 1 4129 1 none] h ?_ ?_ ?_<;>first
 | (clear h;intro k a x Qn K hK2 hkN2 ha2 h hf;have hl:=fact_int (factsE_find (n:=25) hf.1 rfl);clear hf;have hkd:=kD hkN2;have hkB2:=kB hkN2;have hkI2:=kI (k:=k) (by omega);unfold F_o at h;unfold mc_o;replace h:=tY h;refine tK ha2 hkd hkN2 hkB2 hkI2 ?_)
  |(clear h;intro x K h;replace h:=And.left (And.intro h trivial);unfold mc_o;replace h:=tY h;refine tB ?_)
  |(clear h;(try refine tB ?_);exact tU0;done))
 | (simp only [ha2])
 | ((first|refine hK1 _ ?_|refine hK2 _ ?_);(try refine tB ?_);refine ⟨_,h,?_⟩;exact tU0;done)
 | (refine tE ?_;(first|rw [M.lok_compU]|rw [M.lokD_compU]);refine tB ?_)
 | (refine tA ?_)
 | fail)⟩
end Go.Ab
set_option maxRecDepth 20000
set_option maxHeartbeats 2000000
namespace Go.Ab
open Go.Proofs
noncomputable def F_1o:Option Bool := (F_3k [112,101,114,115,111,110,32,97,110,110,10,97,108,108,111,119,32,51,32,97,110,110,32,48,10,112,117,116,32,53,32,55,32,48,10,115,105,110,99,101,32,55,32,97,110,110,10,119,104,111,32,52,32,48,10]).bind fun y2=>(F_h y2.1).bind fun y4=>grp ((decide (y2.2.2=0)&&decide ((y2.1.length:Int)=5))) fun b8=>grp ((b8&&decide (y4.2=0))) fun b9=>grp ((b9&&decide (y4.1=[53,10,105,110,115,105,100,101,32,97,110,110,10]))) fun b10=>some b10
@[irreducible] def mg_7i:List MOp:=[tV 18 19 1,gT 18 20 (.len false (.t 19)),gT 18 21 (.bin false .eql (.t 20) (cI 5)),pA 18 21 22]
@[irreducible] def mg_7j:List MOp:=[tV 23 24 5,gT 23 25 (.bin false .eql (.t 24) (cI 0)),pA 23 25 26]
@[irreducible] def mg_7k:List MOp:=[tV 27 28 4,gT 27 29 (.bin false .eql (.t 28) (.c (.str [53,10,105,110,115,105,100,101,32,97,110,110,10]))),pA 27 29 30]
def mc_1o:MC := (sR [mF 0] (sR [mo (.call (.f 26) [(.c (.str [112,101,114,115,111,110,32,97,110,110,10,97,108,108,111,119,32,51,32,97,110,110,32,48,10,112,117,116,32,53,32,55,32,48,10,115,105,110,99,101,32,55,32,97,110,110,10,119,104,111,32,52,32,48,10]))] [] []) 7,oV 7 6,xT 0 6 8,xT 1 6 9,xT 2 6 10,oV 8 1,oV 9 2,oV 10 3] (sR [oV 1 12,k1 12 12 13,oV 13 11,xT 0 11 14,xT 1 11 15,oV 14 4,oV 15 5] (.seq (.note (.gc [1,3,4,5,19,20,21,24,25,28,29]) (.regI [.op (oV 3 16),.op (bC .eql 16 0 17),.op (oV 17 18),.grp mg_7i,.op (oV 22 23),.grp mg_7j,.op (oV 26 27),.grp mg_7k,.op (oV 30 0)])) .ret))))
instance:GV mg_7k 30 [28,29]:=⟨⟩
instance:GV mg_7j 26 [24,25]:=⟨⟩
instance:GV mg_7i 22 [19,20,21]:=⟨⟩
instance Wq_law44_awake:WI F_1o Tryz.prog 8 [] [] (fun z=>.bool z) (fun z=>[]):=⟨fun Q Q' h hQ=>by
 refine acallM mc_1o [] [] [.t 0] Tryz.func8 fun M=>?_
 unfold F_1o at h
 unfold mc_1o
 exact tX⟩
end Go.Ab
set_option maxRecDepth 20000
set_option maxHeartbeats 2000000
namespace Go.Ab
open Go.Proofs
noncomputable def F_3f (y8:GDirectory×GEstate×(List Str)×Int) (y32:List Str) (k43:Int) (a44:Int) (x42:Unit):Option (Fl Unit Bool) := chk (in64 (1+k43)) (chk (inb (1+k43) y32.length) (chk (inb a44 y8.2.2.1.length) (bif (!decide ((y32.getD ((1+k43)).toNat default)=(y8.2.2.1.getD (a44).toNat default))) then some (.ex false) else some (.nx ()))))
noncomputable def F_45 (l_:List Int):Option Bool := bif decide (400<(l_.length:Int)) then F_1o.bind fun y4=>some y4 else (F_2w (GTape.mk l_ 0)).bind fun y6=>(F_n y6.1).bind fun y8=>grp (((!decide (y8.2.2.2=0))||(!decide ((y8.2.2.1.length:Int)=(y8.1.Kinds.length:Int))))) fun b15=>grp ((b15||(!decide ((y8.2.2.1.length:Int)=4)))) fun b16=>bif b16 then some false else (F_0 y6.2 20).bind fun y21=>(F_0 y21.2 3).bind fun y22=>(F_0 y22.2 3).bind fun y23=>(F_0 y23.2 4).bind fun y24=>chk (room y6.1.length 64) (chk (inb y24.1 y8.2.2.1.length) (chk (room (y6.1.length+[(GCommand.mk 10 [] [] y21.1 y22.1 0),(GCommand.mk 11 (y8.2.2.1.getD (y24.1).toNat default) [] 0 y23.1 0)].length) 64) ((F_h (y6.1++[(GCommand.mk 10 [] [] y21.1 y22.1 0),(GCommand.mk 11 (y8.2.2.1.getD (y24.1).toNat default) [] 0 y23.1 0)])).bind fun y26=>bif (!decide (y26.2=0)) then some false else (F_27 y26.1 10).bind fun y28=>bif decide ((y28.length:Int)<3) then some false else chk (in64 ((y28.length:Int) - 1)) (chk (inb ((y28.length:Int) - 1) y28.length) (bif (!decide ((y28.getD (((y28.length:Int) - 1)).toNat default)=[])) then some false else (F_32 y8.1 y8.2.1 y22.1 y21.1).bind fun y30=>bif (!decide (y30.2=0)) then some false else chk (in64 ((y28.length:Int) - 3)) (chk (inb ((y28.length:Int) - 3) y28.length) ((F_27 (y28.getD (((y28.length:Int) - 3)).toNat default) 32).bind fun y32=>chk (in64 (1+(y30.1.Principals.length:Int))) (bif (!decide ((y32.length:Int)=(1+(y30.1.Principals.length:Int)))) then some false else chk (inb 0 y32.length) (bif (!(decide ((y32.getD 0 default)=[112,117,98,108,105,99])==y30.1.Public)) then some false else (forL (F_3f y8 y32) y30.1.Principals 0 ()).bind fun o=>o.elim (fun x45=>(F_3b y8.1 y8.2.1 y23.1 y24.1).bind fun y48=>chk (in64 ((y28.length:Int) - 2)) (chk (inb ((y28.length:Int) - 2) y28.length) (jn (α:=Bool) (bif (y48.2==(!decide ((y28.getD (((y28.length:Int) - 2)).toNat default)=[110,101,118,101,114]))) then F_1o.bind fun y52=>some y52 else some false) fun j53=>some j53))) (fun r46=>some r46))))))))))
@[irreducible] def mg_5e:List MOp:=[fV 42 43 7,gF 42 44 (.len false (.t 43)),fa_ 42 45 0 5,fL 42 46 45,gF 42 47 (.len false (.t 46)),gF 42 48 (.bin false .neq (.t 44) (.t 47)),pO 42 48 49]
@[irreducible] def mg_5f:List MOp:=[fV 50 51 7,gF 50 52 (.len false (.t 51)),gF 50 53 (.bin false .neq (.t 52) (cI 4)),pO 50 53 54]
@[irreducible] def mc_3f:MC := (sR [bT .lss 133 132 134] (.seq (.cond (.t 134) .skip (.exit 0)) (.seq (.block 1 (sR [oV 133 135,iA 1 131 133 136,oL 136 137,oV 135 20,oV 137 21] (.seq (.regD [oV 19 138,oV 20 139,mo (.bin true .add (cI 1) (.t 139)) 140,iA 1 138 140 141,oL 141 142,oV 7 143,oV 21 144,iA 1 143 144 145,oL 145 146,bT .neq 142 146 147] [[],[],[1],[0,2],[3],[],[],[5,6],[7],[4,8]] [[],[],[1],[0,1,2],[0,1,2,3],[],[],[5,6],[5,6,7],[0,1,2,3,4,5,6,7,8]]) (.cond (.t 147) (sR [mF 2] .ret) .skip)))) (.reg [aI 133 1 148,oV 148 133]))))
@[irreducible] def mg_5g:List MOp:=[gT 166 167 (.call (.f 8) [] [] []),pA 166 167 168]
def mc_45:MC := (sR [mF 2] (.seq (sR [oV 0 24,lE 24 25,bC .gtr 25 400 26] (.cond (.t 26) (sR [mo (.call (.f 8) [] [] []) 27,oV 27 2] .ret) .skip)) (sR [oV 0 28,mo (.build [(.sl []),(.int .i64 0)] [(0,1,(.t 28))]) 29,bx 29 30,oV 30 3] (.seq (.note (.gc [3,43,44,45,46,47,48,51,52,53,89,90,91,92,93,94,95,122,123,124,125,126,127,128,167]) (.reg [oV 3 31,mo (.call (.f 9) [(.t 31)] [30] []) 32,oV 32 4])) (sR [oV 4 34,k1 13 34 35,oV 35 33,xT 0 33 36,xT 1 33 37,xT 2 33 38,xT 3 33 39,mo (.alloc [(.sl []),(.sl [])]) 5,mo (.alloc [(.int .i64 0),(.sl [])]) 6,⟨.st 2 (.t 5) (.t 36),none,none⟩,⟨.st 2 (.t 6) (.t 37),none,none⟩,oV 38 7,oV 39 8] (.seq (.seq (.note (.gc [3,4,5,6,7,8,43,44,45,46,47,48,51,52,53,89,90,91,92,93,94,95,122,123,124,125,126,127,128,167]) (.regI [.op (oV 8 40),.op (bC .neq 40 0 41),.op (oV 41 42),.grp mg_5e,.op (oV 49 50),.grp mg_5f])) (.cond (.t 54) (sR [mF 2] .ret) .skip)) (sR [oV 3 55,mo (.call (.f 11) [(.t 55),(cI 20)] [30] []) 56,oV 3 57,mo (.call (.f 11) [(.t 57),(cI 3)] [30] []) 58,oV 3 59,mo (.call (.f 11) [(.t 59),(cI 3)] [30] []) 60,oV 3 61,mo (.call (.f 11) [(.t 61),(cI 4)] [30] []) 62,oV 56 9,oV 58 10,oV 60 11,oV 62 12] (.seq (.note (.gc [4,5,6,7,9,10,11,12,89,90,91,92,93,94,95,122,123,124,125,126,127,128,167]) (.regD [oV 4 63,mo (.app 6 64 (.c .nils) (.t 63)) 64,oV 9 65,oV 10 66,mo (.build [(.int .i64 0),(.str []),(.str []),(.int .i64 0),(.int .i64 0),(.int .i64 0)] [(0,1,(cI 10)),(3,1,(.t 65)),(4,1,(.t 66))]) 67,oV 11 68,oV 7 69,oV 12 70,iA 1 69 70 71,oL 71 72,mo (.build [(.int .i64 0),(.str []),(.str []),(.int .i64 0),(.int .i64 0),(.int .i64 0)] [(0,1,(cI 11)),(4,1,(.t 68)),(1,1,(.t 72))]) 73,mo (.bslice 6 [(.t 67),(.t 73)]) 74,ap 6 64 64 74 75,oV 75 13] [[],[0],[],[],[2,3],[],[],[],[6,7],[8],[5,9],[4,10],[1,11,1],[12,12,0,1,2,3,4,5,6,7,8,9,10,11,12]] [[],[0],[],[],[2,3],[],[],[],[6,7],[6,7,8],[5,6,7,8,9],[2,3,4,5,6,7,8,9,10],[0,1,2,3,4,5,6,7,8,9,10,11],[0,1,2,3,4,5,6,7,8,9,10,11,12]])) (.seq (.note (.gc [5,6,7,9,10,11,12,13,89,90,91,92,93,94,95,122,123,124,125,126,127,128,167]) (.regI [.op (oV 13 77),.nt (.fz 77),.op (k1 12 77 78),.op (oV 78 76),.op (xT 0 76 79),.op (xT 1 76 80),.op (oV 79 14),.op (oV 80 15)])) (.seq (sR [oV 15 81,bC .neq 81 0 82] (.cond (.t 82) (sR [mF 2] .ret) .skip)) (.seq (.note (.gc [5,6,7,9,10,11,12,14,89,90,91,92,93,94,95,122,123,124,125,126,127,128,167]) (.reg [oV 14 83,mo (.call (.f 14) [(.t 83),(.c (.int .u8 10))] [] []) 84,oV 84 16])) (.seq (sR [oV 16 85,lE 85 86,bC .lss 86 3 87,oV 87 88,fV 88 89 16,fV 88 90 16,gF 88 91 (.len false (.t 90)),gF 88 92 (.bin true .sub (.t 91) (cI 1)),gF 88 93 (.iad 1 (.t 89) (.t 92)),fL 88 94 93,gF 88 95 (.bin false .neq (.t 94) (.c (.str []))),pO 88 95 96] (.cond (.t 96) (sR [mF 2] .ret) .skip)) (.seq (.note (.gc [5,6,7,9,10,11,12,16,122,123,124,125,126,127,128,167]) (.reg [lN 2 5 98,lN 2 6 99,oV 10 100,oV 9 101,mo (.call (.f 15) [(.t 98),(.t 99),(.t 100),(.t 101)] [] []) 102,oV 102 97,xT 0 97 103,xT 1 97 104,mo (.alloc [(.bool false),(.sl [])]) 17,⟨.st 2 (.t 17) (.t 103),none,none⟩,oV 104 18])) (.seq (sR [oV 18 105,bC .neq 105 0 106] (.cond (.t 106) (sR [mF 2] .ret) .skip)) (.seq (.note (.gc [5,6,7,11,12,16,17,122,123,124,125,126,127,128,167]) (.reg [oV 16 107,oV 16 108,lE 108 109,sI 109 3 110,iA 1 107 110 111,oL 111 112,mo (.call (.f 14) [(.t 112),(.c (.int .u8 32))] [] []) 113,oV 113 19])) (.seq (.seq (.regD [oV 19 114,lE 114 115,oF 1 17 116,oL 116 117,lE 117 118,mo (.bin true .add (cI 1) (.t 118)) 119,bT .neq 115 119 120,oV 120 121,fV 121 122 19,gF 121 123 (.iad 1 (.t 122) (cI 0)),fL 121 124 123,gF 121 125 (.bin false .eql (.t 124) (.c (.str [112,117,98,108,105,99]))),fa_ 121 126 0 17,fL 121 127 126,gF 121 128 (.beq true (.t 125) (.t 127)),pO 121 128 129] [[],[0],[],[2],[3],[4],[1,5],[6],[7],[8,7],[9,7],[10,7],[7],[12,7],[11,13,7],[7,14]] [[],[0],[],[2],[2,3],[2,3,4],[0,1,2,3,4,5],[0,1,2,3,4,5,6],[0,1,2,3,4,5,6,7],[0,1,2,3,4,5,6,7,8],[0,1,2,3,4,5,6,7,8,9],[0,1,2,3,4,5,6,7,8,9,10],[0,1,2,3,4,5,6,7],[0,1,2,3,4,5,6,7,12],[0,1,2,3,4,5,6,7,8,9,10,11,12,13],[0,1,2,3,4,5,6,7,8,9,10,11,12,13,14]]) (.cond (.t 129) (sR [mF 2] .ret) .skip)) (.seq (.seq (.note (.gc [5,6,7,11,12,16,17,19,167]) (.reg [oF 1 17 130,oL 130 131,lE 131 132,oC 0 133])) (.block 0 (.loop mc_3f))) (sR [lN 2 5 150,lN 2 6 151,oV 11 152,oV 12 153,mo (.call (.f 16) [(.t 150),(.t 151),(.t 152),(.t 153)] [] []) 154,oV 154 149,xT 0 149 155,xT 1 149 156,oV 155 22,oV 156 23] (.seq (.note (.gc [16,23,167]) (.regI [.op (oV 23 157),.op (oV 16 158),.op (oV 16 159),.op (lE 159 160),.op (sI 160 2 161),.op (iA 1 158 161 162),.op (oL 162 163),.op (mo (.bin false .neq (.t 163) (.c (.str [110,101,118,101,114]))) 164),.op (mo (.beq false (.t 157) (.t 164)) 165),.op (oV 165 166),.grp mg_5g,.op (oV 168 2)])) .ret)))))))))))))))))))
instance Wq_law44_ConsoleTells {l_:List Int}:WI (F_45 l_) Tryz.prog 4 [.sl (l_.map (V.int .i64))] [] (fun z=>.bool z) (fun z=>[]):=⟨fun Q Q' h hQ=>by
 refine acallM mc_45 [] [] [.t 2] Tryz.func4 fun M=>?_
 unfold F_45 at h
 unfold mc_45
 replace h:=tY h
 refine tB ?_
 repeat' (first
 | (exact tZ)
 | ((first|refine oblg h ?_|refine roomG h ?_|refine inbG h ?_|refine incG h ?_|refine divG h ?_|refine appG h ?_|refine appC h ?_|refine fork h ?_ ?_|refine forkS h ?_ ?_)<;>clear h<;>intro hc h)
 | (obtain ⟨y,hy,h⟩:=h;(first|have hw:=acall_swe 1000 30 (Wq_made_Script.c.w hy)|have hw:=acall_swe 1000 30 (Wq_made_Tape_Next.c.w hy)|have hw:=WI.w hy);replace hw:=tY hw;(first|refine M.sC hw ?_|refine M.sD hw ?_);clear hw hy;refine tB ?_)
 | (refine M.for1 (b:=mc_3f) 133 [5,6,7,11,12,16,19,131,132] [6,5] (fun x=>[]) (fun x=>[]) [] h ?_ ?_ ?_<;>first
 | (clear h;intro k a x Qn K hK1 hkN1 ha1 h hf;have hl:=fact_int (factsE_find (n:=132) hf.1 rfl);clear hf;have hkd:=kD hkN1;have hkB1:=kB hkN1;have hkI1:=kI (k:=k) (by omega);unfold F_3f at h;unfold mc_3f;replace h:=tY h;refine tK ha1 hkd hkN1 hkB1 hkI1 ?_)
  |(clear h;intro x K h;replace h:=And.left (And.intro h trivial);unfold mc_3f;replace h:=tY h;refine tB ?_)
  |(clear h;(try refine tB ?_);exact tU0;done))
 | (refine M.gj1 (ms:=mg_5g) [] [] (fun y=>[(168,.bool y)]) (fun y=>[]) h ?_ ?_<;>first
 | (clear h;intro Qn K hK2 h;unfold mg_5g;replace h:=tY h;refine tB ?_)
  |(clear h;intro y h;replace h:=tY h;refine tB ?_))
 | (refine M.gv1 (ms:=mg_5f) 54 [51,52,53] h ?_ ?_<;>first
 | (clear h;intro K hK3;unfold mg_5f;refine tB ?_)
 | (clear h;intro b h;replace h:=tY h;refine tB ?_))
 | (refine M.gv1 (ms:=mg_5e) 49 [43,44,45,46,47,48] h ?_ ?_<;>first
 | (clear h;intro K hK4;unfold mg_5e;refine tB ?_)
 | (clear h;intro b h;replace h:=tY h;refine tB ?_))
 | (simp only [ha1])
 | ((first|refine hK1 _ ?_|refine hK2 _ ?_);(try refine tB ?_);refine ⟨_,h,?_⟩;exact tU0;done)
 | ((first|refine hK3 _ ?_|refine hK4 _ ?_);exact tU;done)
 | (refine bfork (fun hc=>?_) (fun hc=>?_))
 | (refine tE ?_;(first|rw [M.lok_compU]|rw [M.lokD_compU]);refine tB ?_)
 | (refine tA ?_)
 | fail)⟩
end Go.Ab

set_option maxRecDepth 20000
set_option maxHeartbeats 2000000
namespace Go.Ab
open Go.Proofs
def C_slices_Clone_api_Command_api_Command (s_:List GCommand):Option (List GCommand) :=
 ambC s_.isEmpty (some []) (chk (room (([]:List GCommand).length+s_.length) 64) (some (([]:List GCommand)++s_)))
theorem C_slices_Clone_api_Command_api_Command_le {s_:List GCommand}:Le (C_slices_Clone_api_Command_api_Command s_) (F_1k s_):=by
 unfold C_slices_Clone_api_Command_api_Command F_1k
 (repeat' (with_reducible first|exact Le.refl|assumption|(refine Le.bind ?_ fun _=>?_)|(refine Le.jn ?_ fun _=>?_)|(refine Le.grp fun _=>?_)|(refine Le.chk ?_)|(refine Le.cond ?_ ?_)|(refine Le.fl (fun _=>?_) fun _=>?_)|(refine Le.sum (fun _=>?_) fun _=>?_)|(refine Le.forL (fun _ _ _=>?_) _ _ _)|(refine Le.foldL (fun _ _ _=>?_) _ _ _)|(refine Le.loop fun _=>?_)|(refine Le.perm fun _=>?_)|(refine Le.amb ?_)|exact Le.sort))
def C_slices_insertionSortCmpFunc_api_Command_of_console_Make_4_L1 (a_:Int) (x126:Int×(List GCommand)):Option (Fl (Int×(List GCommand)) (List GCommand)) :=
 bif decide (a_<x126.1) then chk (inb x126.1 x126.2.length) (chk (in64 (x126.1 - 1)) (chk (inb (x126.1 - 1) x126.2.length) ((F_3e (x126.2.getD ((x126.1).toNat) default) (x126.2.getD (((x126.1 - 1)).toNat) default)).bind fun y134=>bif decide (y134<0) then chk (in64 (x126.1 - 1)) (chk (in64 (x126.1 - 1)) (chk (inb (x126.1 - 1) x126.2.length) (chk (inb x126.1 x126.2.length) (chk (inb x126.1 x126.2.length) (chk (inb (x126.1 - 1) (x126.2.set ((x126.1).toNat) (x126.2.getD (((x126.1 - 1)).toNat) default)).length) (chk (in64 (x126.1 - 1)) (some (.nx ((x126.1 - 1),(x126.2.set ((x126.1).toNat) (x126.2.getD (((x126.1 - 1)).toNat) default)).set (((x126.1 - 1)).toNat) (x126.2.getD ((x126.1).toNat) default)))))))))) else some (.ex x126.2)))) else some (.ex x126.2)
theorem C_slices_insertionSortCmpFunc_api_Command_of_console_Make_4_L1_le  (a_:Int) (x126:Int×(List GCommand)):Le (C_slices_insertionSortCmpFunc_api_Command_of_console_Make_4_L1 a_ x126) (F_y a_ x126):=by
 unfold C_slices_insertionSortCmpFunc_api_Command_of_console_Make_4_L1 F_y
 (repeat' (with_reducible first|exact Le.refl|assumption|(refine Le.bind ?_ fun _=>?_)|(refine Le.jn ?_ fun _=>?_)|(refine Le.grp fun _=>?_)|(refine Le.chk ?_)|(refine Le.cond ?_ ?_)|(refine Le.fl (fun _=>?_) fun _=>?_)|(refine Le.sum (fun _=>?_) fun _=>?_)|(refine Le.forL (fun _ _ _=>?_) _ _ _)|(refine Le.foldL (fun _ _ _=>?_) _ _ _)|(refine Le.loop fun _=>?_)|(refine Le.perm fun _=>?_)|(refine Le.amb ?_)|exact Le.sort))
def C_slices_insertionSortCmpFunc_api_Command_of_console_Make_4_L2 (a_:Int) (b_:Int) (x67:Int×(List GCommand)):Option (Fl (Int×(List GCommand)) (List GCommand)) :=
 bif decide (x67.1<b_) then (iter (C_slices_insertionSortCmpFunc_api_Command_of_console_Make_4_L1 a_) 100000 (x67.1,x67.2)).bind fun r135=>chk (in64 (x67.1+1)) (some (.nx ((x67.1+1),r135))) else some (.ex x67.2)
theorem C_slices_insertionSortCmpFunc_api_Command_of_console_Make_4_L2_le  (a_:Int) (b_:Int) (x67:Int×(List GCommand)):Le (C_slices_insertionSortCmpFunc_api_Command_of_console_Make_4_L2 a_ b_ x67) (F_1l a_ b_ x67):=by
 unfold C_slices_insertionSortCmpFunc_api_Command_of_console_Make_4_L2 F_1l
 (repeat' (with_reducible first|exact Le.refl|assumption|(refine Le.bind ?_ fun _=>?_)|(refine Le.jn ?_ fun _=>?_)|(refine Le.grp fun _=>?_)|(refine Le.chk ?_)|(refine Le.cond ?_ ?_)|(refine Le.fl (fun _=>?_) fun _=>?_)|(refine Le.sum (fun _=>?_) fun _=>?_)|(refine Le.forL (fun _ _ _=>?_) _ _ _)|(refine Le.foldL (fun _ _ _=>?_) _ _ _)|(refine Le.loop fun _=>?_)|(refine Le.perm fun _=>?_)|(refine Le.amb ?_)|exact Le.sort|apply C_slices_insertionSortCmpFunc_api_Command_of_console_Make_4_L1_le))
def C_slices_insertionSortCmpFunc_api_Command_of_console_Make_4 (data_:List GCommand) (a_:Int) (b_:Int):Option (List GCommand) :=
 chk (in64 (a_+1)) ((iter (C_slices_insertionSortCmpFunc_api_Command_of_console_Make_4_L2 a_ b_) 100000 ((a_+1),data_)).bind fun r136=>some r136)
theorem C_slices_insertionSortCmpFunc_api_Command_of_console_Make_4_le {data_:List GCommand} {a_:Int} {b_:Int}:Le (C_slices_insertionSortCmpFunc_api_Command_of_console_Make_4 data_ a_ b_) (F_a data_ a_ b_):=by
 unfold C_slices_insertionSortCmpFunc_api_Command_of_console_Make_4 F_a
 (repeat' (with_reducible first|exact Le.refl|assumption|(refine Le.bind ?_ fun _=>?_)|(refine Le.jn ?_ fun _=>?_)|(refine Le.grp fun _=>?_)|(refine Le.chk ?_)|(refine Le.cond ?_ ?_)|(refine Le.fl (fun _=>?_) fun _=>?_)|(refine Le.sum (fun _=>?_) fun _=>?_)|(refine Le.forL (fun _ _ _=>?_) _ _ _)|(refine Le.foldL (fun _ _ _=>?_) _ _ _)|(refine Le.loop fun _=>?_)|(refine Le.perm fun _=>?_)|(refine Le.amb ?_)|exact Le.sort|apply C_slices_insertionSortCmpFunc_api_Command_of_console_Make_4_L1_le|apply C_slices_insertionSortCmpFunc_api_Command_of_console_Make_4_L2_le))
def C_slices_stableCmpFunc_api_Command_of_console_Make_4_L1 (n_:Int) (x17:Int×Int×(List GCommand)):Option (Fl (Int×Int×(List GCommand)) (Int×(List GCommand))) :=
 bif decide (x17.2.1≤n_) then (C_slices_insertionSortCmpFunc_api_Command_of_console_Make_4 x17.2.2 x17.1 x17.2.1).bind fun y21=>chk (in64 (x17.2.1+20)) (some (.nx (x17.2.1,(x17.2.1+20),y21))) else some (.ex (x17.1,x17.2.2))
theorem C_slices_stableCmpFunc_api_Command_of_console_Make_4_L1_le  (n_:Int) (x17:Int×Int×(List GCommand)):Le (C_slices_stableCmpFunc_api_Command_of_console_Make_4_L1 n_ x17) (F_m n_ x17):=by
 unfold C_slices_stableCmpFunc_api_Command_of_console_Make_4_L1 F_m
 (repeat' (with_reducible first|exact Le.refl|assumption|(refine Le.bind ?_ fun _=>?_)|(refine Le.jn ?_ fun _=>?_)|(refine Le.grp fun _=>?_)|(refine Le.chk ?_)|(refine Le.cond ?_ ?_)|(refine Le.fl (fun _=>?_) fun _=>?_)|(refine Le.sum (fun _=>?_) fun _=>?_)|(refine Le.forL (fun _ _ _=>?_) _ _ _)|(refine Le.foldL (fun _ _ _=>?_) _ _ _)|(refine Le.loop fun _=>?_)|(refine Le.perm fun _=>?_)|(refine Le.amb ?_)|exact Le.sort|exact C_slices_insertionSortCmpFunc_api_Command_of_console_Make_4_le))
def C_slices_stableCmpFunc_api_Command_of_console_Make_4_L2 (n_:Int) (x26:Unit):Option (Fl Unit Unit) :=
 bif decide (20<n_) then none else some (.ex ())
theorem C_slices_stableCmpFunc_api_Command_of_console_Make_4_L2_le  (n_:Int) (x26:Unit):Le (C_slices_stableCmpFunc_api_Command_of_console_Make_4_L2 n_ x26) (F_1m n_ x26):=by
 unfold C_slices_stableCmpFunc_api_Command_of_console_Make_4_L2 F_1m
 (repeat' (with_reducible first|exact Le.refl|assumption|(refine Le.bind ?_ fun _=>?_)|(refine Le.jn ?_ fun _=>?_)|(refine Le.grp fun _=>?_)|(refine Le.chk ?_)|(refine Le.cond ?_ ?_)|(refine Le.fl (fun _=>?_) fun _=>?_)|(refine Le.sum (fun _=>?_) fun _=>?_)|(refine Le.forL (fun _ _ _=>?_) _ _ _)|(refine Le.foldL (fun _ _ _=>?_) _ _ _)|(refine Le.loop fun _=>?_)|(refine Le.perm fun _=>?_)|(refine Le.amb ?_)|exact Le.sort|exact C_slices_insertionSortCmpFunc_api_Command_of_console_Make_4_le|apply C_slices_stableCmpFunc_api_Command_of_console_Make_4_L1_le))
def C_slices_stableCmpFunc_api_Command_of_console_Make_4 (data_:List GCommand) (n_:Int):Option (List GCommand) :=
 (iter (C_slices_stableCmpFunc_api_Command_of_console_Make_4_L1 n_) 100000 (0,20,data_)).bind fun r22=>(C_slices_insertionSortCmpFunc_api_Command_of_console_Make_4 r22.2 r22.1 n_).bind fun y24=>(iter (C_slices_stableCmpFunc_api_Command_of_console_Make_4_L2 n_) 100000 ()).bind fun r27=>some y24
theorem C_slices_stableCmpFunc_api_Command_of_console_Make_4_le {data_:List GCommand} {n_:Int}:Le (C_slices_stableCmpFunc_api_Command_of_console_Make_4 data_ n_) (F_z data_ n_):=by
 unfold C_slices_stableCmpFunc_api_Command_of_console_Make_4 F_z
 (repeat' (with_reducible first|exact Le.refl|assumption|(refine Le.bind ?_ fun _=>?_)|(refine Le.jn ?_ fun _=>?_)|(refine Le.grp fun _=>?_)|(refine Le.chk ?_)|(refine Le.cond ?_ ?_)|(refine Le.fl (fun _=>?_) fun _=>?_)|(refine Le.sum (fun _=>?_) fun _=>?_)|(refine Le.forL (fun _ _ _=>?_) _ _ _)|(refine Le.foldL (fun _ _ _=>?_) _ _ _)|(refine Le.loop fun _=>?_)|(refine Le.perm fun _=>?_)|(refine Le.amb ?_)|exact Le.sort|exact C_slices_insertionSortCmpFunc_api_Command_of_console_Make_4_le|apply C_slices_stableCmpFunc_api_Command_of_console_Make_4_L1_le|apply C_slices_stableCmpFunc_api_Command_of_console_Make_4_L2_le))
def C_slices_SortStableFunc_api_Command_api_Command_of_console_Make_4 (x_:List GCommand):Option (List GCommand) :=
 (C_slices_stableCmpFunc_api_Command_of_console_Make_4 x_ (x_.length:Int)).bind fun y1=>some y1
theorem C_slices_SortStableFunc_api_Command_api_Command_of_console_Make_4_le {x_:List GCommand}:Le (C_slices_SortStableFunc_api_Command_api_Command_of_console_Make_4 x_) (F_b x_):=by
 unfold C_slices_SortStableFunc_api_Command_api_Command_of_console_Make_4 F_b
 (repeat' (with_reducible first|exact Le.refl|assumption|(refine Le.bind ?_ fun _=>?_)|(refine Le.jn ?_ fun _=>?_)|(refine Le.grp fun _=>?_)|(refine Le.chk ?_)|(refine Le.cond ?_ ?_)|(refine Le.fl (fun _=>?_) fun _=>?_)|(refine Le.sum (fun _=>?_) fun _=>?_)|(refine Le.forL (fun _ _ _=>?_) _ _ _)|(refine Le.foldL (fun _ _ _=>?_) _ _ _)|(refine Le.loop fun _=>?_)|(refine Le.perm fun _=>?_)|(refine Le.amb ?_)|exact Le.sort|exact C_slices_stableCmpFunc_api_Command_of_console_Make_4_le))
def C_console_Make_L1 (y10:(List Int)×(List Str)) (k68:Int) (a69:GCommand) (x67:Int×(List GAccess)×(List Int)×(List GMember)):Option (Int×(List GAccess)×(List Int)×(List GMember)) :=
 (F_2j a69 y10.2 (GDirectory.mk x67.2.2.1 x67.2.2.2) (GEstate.mk x67.1 x67.2.1)).bind fun y73=>some (y73.2.Places,y73.2.Events,y73.1.Kinds,y73.1.Events)
theorem C_console_Make_L1_le  (y10:(List Int)×(List Str)) (k68:Int) (a69:GCommand) (x67:Int×(List GAccess)×(List Int)×(List GMember)):Le (C_console_Make_L1 y10 k68 a69 x67) (F_10 y10 k68 a69 x67):=by
 unfold C_console_Make_L1 F_10
 (repeat' (with_reducible first|exact Le.refl|assumption|(refine Le.bind ?_ fun _=>?_)|(refine Le.jn ?_ fun _=>?_)|(refine Le.grp fun _=>?_)|(refine Le.chk ?_)|(refine Le.cond ?_ ?_)|(refine Le.fl (fun _=>?_) fun _=>?_)|(refine Le.sum (fun _=>?_) fun _=>?_)|(refine Le.forL (fun _ _ _=>?_) _ _ _)|(refine Le.foldL (fun _ _ _=>?_) _ _ _)|(refine Le.loop fun _=>?_)|(refine Le.perm fun _=>?_)|(refine Le.amb ?_)|exact Le.sort|exact C_slices_Clone_api_Command_api_Command_le|exact C_slices_SortStableFunc_api_Command_api_Command_of_console_Make_4_le))
def C_console_Make (l_:List GCommand):Option (GDirectory×GEstate×(List Str)×Int) :=
 (F_2d l_).bind fun y6=>bif (!decide (y6=0)) then (F_2 y6).bind fun y8=>some (y8.1,y8.2.1,y8.2.2.1,y8.2.2.2) else (F_2f l_).bind fun y10=>(valsF y10.2).bind fun y13=>(F_2g y10.2).bind fun y14=>(compactS y14).bind fun y26=>bif decide ((y26.1:Int)<(y10.2.length:Int)) then (F_2 7).bind fun y28=>some (y28.1,y28.2.1,y28.2.2.1,y28.2.2.2) else (F_2i l_ y10.2).bind fun y30=>bif y30 then (F_2 6).bind fun y32=>some (y32.1,y32.2.1,y32.2.2.1,y32.2.2.2) else bif decide (24<(y10.2.length:Int)) then (F_2 3).bind fun y34=>some (y34.1,y34.2.1,y34.2.2.1,y34.2.2.2) else (C_slices_Clone_api_Command_api_Command l_).bind fun y36=>(C_slices_SortStableFunc_api_Command_api_Command_of_console_Make_4 y36).bind fun y38=>(foldL (C_console_Make_L1 y10) y38 0 (16,[],y10.1,[])).bind fun x74=>(F_9 (GDirectory.mk x74.2.2.1 x74.2.2.2)).bind fun y80=>bif (!decide (y80=0)) then (F_2 y80).bind fun y82=>some (y82.1,y82.2.1,y82.2.2.1,y82.2.2.2) else (F_3 (GEstate.mk x74.1 x74.2.1)).bind fun y88=>bif (!decide (y88=0)) then (F_2 y88).bind fun y90=>some (y90.1,y90.2.1,y90.2.2.1,y90.2.2.2) else some ((GDirectory.mk x74.2.2.1 x74.2.2.2),(GEstate.mk x74.1 x74.2.1),y10.2,0)
theorem C_console_Make_le {l_:List GCommand}:Le (C_console_Make l_) (F_n l_):=by
 unfold C_console_Make F_n
 (repeat' (with_reducible first|exact Le.refl|assumption|(refine Le.bind ?_ fun _=>?_)|(refine Le.jn ?_ fun _=>?_)|(refine Le.grp fun _=>?_)|(refine Le.chk ?_)|(refine Le.cond ?_ ?_)|(refine Le.fl (fun _=>?_) fun _=>?_)|(refine Le.sum (fun _=>?_) fun _=>?_)|(refine Le.forL (fun _ _ _=>?_) _ _ _)|(refine Le.foldL (fun _ _ _=>?_) _ _ _)|(refine Le.loop fun _=>?_)|(refine Le.perm fun _=>?_)|(refine Le.amb ?_)|exact Le.sort|exact C_slices_Clone_api_Command_api_Command_le|exact C_slices_SortStableFunc_api_Command_api_Command_of_console_Make_4_le|apply C_console_Make_L1_le))
def C_directory_table_upward_L1 (k351:Int) (a352:Bool) (x350:(List Int)×(List Bool)):Option ((List Int)×(List Bool)) :=
 jn (α:=Bool) (bif a352 then chk (inb k351 x350.2.length) (some (!(x350.2.getD ((k351).toNat) default))) else some false) fun j360=>bif j360 then chk (room (x350.1.length+[k351].length) 8) (chk (inb k351 x350.2.length) (some ((x350.1++[k351]),x350.2.set ((k351).toNat) true))) else some (x350.1,x350.2)
theorem C_directory_table_upward_L1_le  (k351:Int) (a352:Bool) (x350:(List Int)×(List Bool)):Le (C_directory_table_upward_L1 k351 a352 x350) (F_1y k351 a352 x350):=by
 unfold C_directory_table_upward_L1 F_1y
 (repeat' (with_reducible first|exact Le.refl|assumption|(refine Le.bind ?_ fun _=>?_)|(refine Le.jn ?_ fun _=>?_)|(refine Le.grp fun _=>?_)|(refine Le.chk ?_)|(refine Le.cond ?_ ?_)|(refine Le.fl (fun _=>?_) fun _=>?_)|(refine Le.sum (fun _=>?_) fun _=>?_)|(refine Le.forL (fun _ _ _=>?_) _ _ _)|(refine Le.foldL (fun _ _ _=>?_) _ _ _)|(refine Le.loop fun _=>?_)|(refine Le.perm fun _=>?_)|(refine Le.amb ?_)|exact Le.sort))
def C_directory_table_upward_L2 (x_:List (List Bool)) (x257:(List Int)×(List Bool)):Option (Fl ((List Int)×(List Bool)) (List Bool)) :=
 bif decide (0<(x257.1.length:Int)) then chk (inb 0 x257.1.length) (chk (inb (x257.1.getD 0 default) x_.length) ((foldL C_directory_table_upward_L1 (x_.getD (x257.1.getD 0 default).toNat default) 0 (x257.1,x257.2)).bind fun x361=>chk (inc 1 (x361.1.length:Int) x361.1.length) (some (.nx ((x361.1.drop 1).take (x361.1.length - 1),x361.2))))) else some (.ex x257.2)
theorem C_directory_table_upward_L2_le  (x_:List (List Bool)) (x257:(List Int)×(List Bool)):Le (C_directory_table_upward_L2 x_ x257) (F_2r x_ x257):=by
 unfold C_directory_table_upward_L2 F_2r
 (repeat' (with_reducible first|exact Le.refl|assumption|(refine Le.bind ?_ fun _=>?_)|(refine Le.jn ?_ fun _=>?_)|(refine Le.grp fun _=>?_)|(refine Le.chk ?_)|(refine Le.cond ?_ ?_)|(refine Le.fl (fun _=>?_) fun _=>?_)|(refine Le.sum (fun _=>?_) fun _=>?_)|(refine Le.forL (fun _ _ _=>?_) _ _ _)|(refine Le.foldL (fun _ _ _=>?_) _ _ _)|(refine Le.loop fun _=>?_)|(refine Le.perm fun _=>?_)|(refine Le.amb ?_)|exact Le.sort|apply C_directory_table_upward_L1_le))
def C_directory_table_upward (x_:List (List Bool)) (p_:Int):Option (List Bool) :=
 chk (roomI (x_.length:Int) (x_.length:Int) 1) (chk (inb p_ (List.replicate ((x_.length:Int)).toNat false).length) ((iter (C_directory_table_upward_L2 x_) 100000 ([p_],(List.replicate ((x_.length:Int)).toNat false).set ((p_).toNat) true)).bind fun r362=>some r362))
theorem C_directory_table_upward_le {x_:List (List Bool)} {p_:Int}:Le (C_directory_table_upward x_ p_) (F_16 x_ p_):=by
 unfold C_directory_table_upward F_16
 (repeat' (with_reducible first|exact Le.refl|assumption|(refine Le.bind ?_ fun _=>?_)|(refine Le.jn ?_ fun _=>?_)|(refine Le.grp fun _=>?_)|(refine Le.chk ?_)|(refine Le.cond ?_ ?_)|(refine Le.fl (fun _=>?_) fun _=>?_)|(refine Le.sum (fun _=>?_) fun _=>?_)|(refine Le.forL (fun _ _ _=>?_) _ _ _)|(refine Le.foldL (fun _ _ _=>?_) _ _ _)|(refine Le.loop fun _=>?_)|(refine Le.perm fun _=>?_)|(refine Le.amb ?_)|exact Le.sort|apply C_directory_table_upward_L1_le|apply C_directory_table_upward_L2_le))
def C_directory_Upward (d_:GDirectory) (p_:Int) (t_:Int):Option (List Int) :=
 (F_1x d_ p_).bind fun y4=>bif (!y4) then some [] else (atF d_.Kinds.length (d_.Events.map fun e=>(e.Time,e.Kind,e.Principal,e.Group)) t_).bind fun y8=>(C_directory_table_upward y8 p_).bind fun y9=>(F_17 y9).bind fun y10=>some y10
theorem C_directory_Upward_le {d_:GDirectory} {p_:Int} {t_:Int}:Le (C_directory_Upward d_ p_ t_) (F_t d_ p_ t_):=by
 unfold C_directory_Upward F_t
 (repeat' (with_reducible first|exact Le.refl|assumption|(refine Le.bind ?_ fun _=>?_)|(refine Le.jn ?_ fun _=>?_)|(refine Le.grp fun _=>?_)|(refine Le.chk ?_)|(refine Le.cond ?_ ?_)|(refine Le.fl (fun _=>?_) fun _=>?_)|(refine Le.sum (fun _=>?_) fun _=>?_)|(refine Le.forL (fun _ _ _=>?_) _ _ _)|(refine Le.foldL (fun _ _ _=>?_) _ _ _)|(refine Le.loop fun _=>?_)|(refine Le.perm fun _=>?_)|(refine Le.amb ?_)|exact Le.sort|exact C_directory_table_upward_le))
def C_access_Granted_L1 (k21:Int) (a19:Int×Int) (x18:List Int):Option (List Int) :=
 chk (room (x18.length+[a19.1].length) 8) (some (x18++[a19.1]))
theorem C_access_Granted_L1_le  (k21:Int) (a19:Int×Int) (x18:List Int):Le (C_access_Granted_L1 k21 a19 x18) (F_20 k21 a19 x18):=by
 unfold C_access_Granted_L1 F_20
 (repeat' (with_reducible first|exact Le.refl|assumption|(refine Le.bind ?_ fun _=>?_)|(refine Le.jn ?_ fun _=>?_)|(refine Le.grp fun _=>?_)|(refine Le.chk ?_)|(refine Le.cond ?_ ?_)|(refine Le.fl (fun _=>?_) fun _=>?_)|(refine Le.sum (fun _=>?_) fun _=>?_)|(refine Le.forL (fun _ _ _=>?_) _ _ _)|(refine Le.foldL (fun _ _ _=>?_) _ _ _)|(refine Le.loop fun _=>?_)|(refine Le.perm fun _=>?_)|(refine Le.amb ?_)|exact Le.sort))
def C_access_Granted (a_:GEstate) (place_:Int) (t_:Int):Option (List Int) :=
 (F_1 a_ place_).bind fun y4=>bif (!y4) then some [] else (F_1z a_ place_ t_).bind fun y15=>permC (fun l20=>(foldL C_access_Granted_L1 l20 0 []).bind fun x22=>(sortIC x22).bind fun y24=>some y24) y15
theorem C_access_Granted_le {a_:GEstate} {place_:Int} {t_:Int}:Le (C_access_Granted a_ place_ t_) (F_e a_ place_ t_):=by
 unfold C_access_Granted F_e
 (repeat' (with_reducible first|exact Le.refl|assumption|(refine Le.bind ?_ fun _=>?_)|(refine Le.jn ?_ fun _=>?_)|(refine Le.grp fun _=>?_)|(refine Le.chk ?_)|(refine Le.cond ?_ ?_)|(refine Le.fl (fun _=>?_) fun _=>?_)|(refine Le.sum (fun _=>?_) fun _=>?_)|(refine Le.forL (fun _ _ _=>?_) _ _ _)|(refine Le.foldL (fun _ _ _=>?_) _ _ _)|(refine Le.loop fun _=>?_)|(refine Le.perm fun _=>?_)|(refine Le.amb ?_)|exact Le.sort|apply C_access_Granted_L1_le))
def C_readers_grant_L1 (y2:List Int) (k37:Int) (a38:Int) (x36:Unit):Option (Fl Unit (Int×Bool)) :=
 (F_2n y2 a38).bind fun y46=>bif y46 then some (.ex (a38,true)) else some (.nx ())
theorem C_readers_grant_L1_le  (y2:List Int) (k37:Int) (a38:Int) (x36:Unit):Le (C_readers_grant_L1 y2 k37 a38 x36) (F_21 y2 k37 a38 x36):=by
 unfold C_readers_grant_L1 F_21
 (repeat' (with_reducible first|exact Le.refl|assumption|(refine Le.bind ?_ fun _=>?_)|(refine Le.jn ?_ fun _=>?_)|(refine Le.grp fun _=>?_)|(refine Le.chk ?_)|(refine Le.cond ?_ ?_)|(refine Le.fl (fun _=>?_) fun _=>?_)|(refine Le.sum (fun _=>?_) fun _=>?_)|(refine Le.forL (fun _ _ _=>?_) _ _ _)|(refine Le.foldL (fun _ _ _=>?_) _ _ _)|(refine Le.loop fun _=>?_)|(refine Le.perm fun _=>?_)|(refine Le.amb ?_)|exact Le.sort|exact C_directory_Upward_le|exact C_access_Granted_le))
def C_readers_grant (d_:GDirectory) (a_:GEstate) (p_:Int) (place_:Int) (t_:Int):Option (Int×Bool) :=
 (C_directory_Upward d_ p_ t_).bind fun y2=>(C_access_Granted a_ place_ t_).bind fun y25=>(forL (C_readers_grant_L1 y2) y25 0 ()).bind fun o=>o.elim (fun x47=>some (0,false)) (fun r48=>some r48)
theorem C_readers_grant_le {d_:GDirectory} {a_:GEstate} {p_:Int} {place_:Int} {t_:Int}:Le (C_readers_grant d_ a_ p_ place_ t_) (F_18 d_ a_ p_ place_ t_):=by
 unfold C_readers_grant F_18
 (repeat' (with_reducible first|exact Le.refl|assumption|(refine Le.bind ?_ fun _=>?_)|(refine Le.jn ?_ fun _=>?_)|(refine Le.grp fun _=>?_)|(refine Le.chk ?_)|(refine Le.cond ?_ ?_)|(refine Le.fl (fun _=>?_) fun _=>?_)|(refine Le.sum (fun _=>?_) fun _=>?_)|(refine Le.forL (fun _ _ _=>?_) _ _ _)|(refine Le.foldL (fun _ _ _=>?_) _ _ _)|(refine Le.loop fun _=>?_)|(refine Le.perm fun _=>?_)|(refine Le.amb ?_)|exact Le.sort|exact C_directory_Upward_le|exact C_access_Granted_le|apply C_readers_grant_L1_le))
def C_readers_May (d_:GDirectory) (a_:GEstate) (p_:Int) (place_:Int) (t_:Int):Option Bool :=
 (F_1w d_ a_ p_ place_).bind fun y4=>bif (!y4) then some false else (F_4 a_ place_ t_).bind fun y6=>(C_readers_grant d_ a_ p_ place_ t_).bind fun y8=>grp ((y6.2||y8.2)) fun b10=>some b10
theorem C_readers_May_le {d_:GDirectory} {a_:GEstate} {p_:Int} {place_:Int} {t_:Int}:Le (C_readers_May d_ a_ p_ place_ t_) (F_u d_ a_ p_ place_ t_):=by
 unfold C_readers_May F_u
 (repeat' (with_reducible first|exact Le.refl|assumption|(refine Le.bind ?_ fun _=>?_)|(refine Le.jn ?_ fun _=>?_)|(refine Le.grp fun _=>?_)|(refine Le.chk ?_)|(refine Le.cond ?_ ?_)|(refine Le.fl (fun _=>?_) fun _=>?_)|(refine Le.sum (fun _=>?_) fun _=>?_)|(refine Le.forL (fun _ _ _=>?_) _ _ _)|(refine Le.foldL (fun _ _ _=>?_) _ _ _)|(refine Le.loop fun _=>?_)|(refine Le.perm fun _=>?_)|(refine Le.amb ?_)|exact Le.sort|exact C_readers_grant_le))
def C_readers_Who_L1 (d_:GDirectory) (a_:GEstate) (place_:Int) (t_:Int) (k54:Int) (a55:Int) (x53:Bool×(List Int)):Option (Bool×(List Int)) :=
 (C_readers_May d_ a_ k54 place_ t_).bind fun y63=>bif y63 then chk (room (x53.2.length+[k54].length) 8) (some (x53.1,(x53.2++[k54]))) else some (x53.1,x53.2)
theorem C_readers_Who_L1_le  (d_:GDirectory) (a_:GEstate) (place_:Int) (t_:Int) (k54:Int) (a55:Int) (x53:Bool×(List Int)):Le (C_readers_Who_L1 d_ a_ place_ t_ k54 a55 x53) (F_22 d_ a_ place_ t_ k54 a55 x53):=by
 unfold C_readers_Who_L1 F_22
 (repeat' (with_reducible first|exact Le.refl|assumption|(refine Le.bind ?_ fun _=>?_)|(refine Le.jn ?_ fun _=>?_)|(refine Le.grp fun _=>?_)|(refine Le.chk ?_)|(refine Le.cond ?_ ?_)|(refine Le.fl (fun _=>?_) fun _=>?_)|(refine Le.sum (fun _=>?_) fun _=>?_)|(refine Le.forL (fun _ _ _=>?_) _ _ _)|(refine Le.foldL (fun _ _ _=>?_) _ _ _)|(refine Le.loop fun _=>?_)|(refine Le.perm fun _=>?_)|(refine Le.amb ?_)|exact Le.sort|exact C_readers_May_le))
def C_readers_Who (d_:GDirectory) (a_:GEstate) (place_:Int) (t_:Int):Option (GAudience×Int) :=
 (F_i d_ a_).bind fun y4=>bif (!decide (y4=0)) then some ((GAudience.mk false []),y4) else (F_6 a_ place_).bind fun y8=>bif (!y8) then some ((GAudience.mk false []),6) else (F_4 a_ place_ t_).bind fun y10=>(foldL (C_readers_Who_L1 d_ a_ place_ t_) d_.Kinds 0 (y10.2,[])).bind fun x64=>some ((GAudience.mk x64.1 x64.2),0)
theorem C_readers_Who_le {d_:GDirectory} {a_:GEstate} {place_:Int} {t_:Int}:Le (C_readers_Who d_ a_ place_ t_) (F_19 d_ a_ place_ t_):=by
 unfold C_readers_Who F_19
 (repeat' (with_reducible first|exact Le.refl|assumption|(refine Le.bind ?_ fun _=>?_)|(refine Le.jn ?_ fun _=>?_)|(refine Le.grp fun _=>?_)|(refine Le.chk ?_)|(refine Le.cond ?_ ?_)|(refine Le.fl (fun _=>?_) fun _=>?_)|(refine Le.sum (fun _=>?_) fun _=>?_)|(refine Le.forL (fun _ _ _=>?_) _ _ _)|(refine Le.foldL (fun _ _ _=>?_) _ _ _)|(refine Le.loop fun _=>?_)|(refine Le.perm fun _=>?_)|(refine Le.amb ?_)|exact Le.sort|exact C_readers_May_le|apply C_readers_Who_L1_le))
def C_console_who_L1 (names_:List Str) (k19:Int) (a20:Int) (x18:Str):Option Str :=
 chk (inb a20 names_.length) (chk (strl ([32].length+(names_.getD (a20).toNat default).length)) (chk (strl (x18.length+(([32]:Str)++(names_.getD (a20).toNat default)).length)) (some (x18++(([32]:Str)++(names_.getD (a20).toNat default))))))
theorem C_console_who_L1_le  (names_:List Str) (k19:Int) (a20:Int) (x18:Str):Le (C_console_who_L1 names_ k19 a20 x18) (F_2k names_ k19 a20 x18):=by
 unfold C_console_who_L1 F_2k
 (repeat' (with_reducible first|exact Le.refl|assumption|(refine Le.bind ?_ fun _=>?_)|(refine Le.jn ?_ fun _=>?_)|(refine Le.grp fun _=>?_)|(refine Le.chk ?_)|(refine Le.cond ?_ ?_)|(refine Le.fl (fun _=>?_) fun _=>?_)|(refine Le.sum (fun _=>?_) fun _=>?_)|(refine Le.forL (fun _ _ _=>?_) _ _ _)|(refine Le.foldL (fun _ _ _=>?_) _ _ _)|(refine Le.loop fun _=>?_)|(refine Le.perm fun _=>?_)|(refine Le.amb ?_)|exact Le.sort|exact C_readers_Who_le))
def C_console_who (c_:GCommand) (d_:GDirectory) (a_:GEstate) (names_:List Str):Option Str :=
 (C_readers_Who d_ a_ c_.A c_.Time).bind fun y2=>jn (α:=Str) (bif y2.1.Public then some [112,117,98,108,105,99] else some [105,110,115,105,100,101]) fun j3=>(foldL (C_console_who_L1 names_) y2.1.Principals 0 j3).bind fun x21=>some x21
theorem C_console_who_le {c_:GCommand} {d_:GDirectory} {a_:GEstate} {names_:List Str}:Le (C_console_who c_ d_ a_ names_) (F_1n c_ d_ a_ names_):=by
 unfold C_console_who F_1n
 (repeat' (with_reducible first|exact Le.refl|assumption|(refine Le.bind ?_ fun _=>?_)|(refine Le.jn ?_ fun _=>?_)|(refine Le.grp fun _=>?_)|(refine Le.chk ?_)|(refine Le.cond ?_ ?_)|(refine Le.fl (fun _=>?_) fun _=>?_)|(refine Le.sum (fun _=>?_) fun _=>?_)|(refine Le.forL (fun _ _ _=>?_) _ _ _)|(refine Le.foldL (fun _ _ _=>?_) _ _ _)|(refine Le.loop fun _=>?_)|(refine Le.perm fun _=>?_)|(refine Le.amb ?_)|exact Le.sort|exact C_readers_Who_le|apply C_console_who_L1_le))
def C_exposure_times_L1 (k18:Int) (a19:GMember) (x17:List Int):Option (List Int) :=
 chk (room (x17.length+[a19.Time].length) 8) (some (x17++[a19.Time]))
theorem C_exposure_times_L1_le  (k18:Int) (a19:GMember) (x17:List Int):Le (C_exposure_times_L1 k18 a19 x17) (F_1a k18 a19 x17):=by
 unfold C_exposure_times_L1 F_1a
 (repeat' (with_reducible first|exact Le.refl|assumption|(refine Le.bind ?_ fun _=>?_)|(refine Le.jn ?_ fun _=>?_)|(refine Le.grp fun _=>?_)|(refine Le.chk ?_)|(refine Le.cond ?_ ?_)|(refine Le.fl (fun _=>?_) fun _=>?_)|(refine Le.sum (fun _=>?_) fun _=>?_)|(refine Le.forL (fun _ _ _=>?_) _ _ _)|(refine Le.foldL (fun _ _ _=>?_) _ _ _)|(refine Le.loop fun _=>?_)|(refine Le.perm fun _=>?_)|(refine Le.amb ?_)|exact Le.sort))
def C_exposure_times (d_:GDirectory) (a_:GEstate):Option (List Int) :=
 (F_24 a_).bind fun y2=>(foldL C_exposure_times_L1 d_.Events 0 y2).bind fun x20=>(sortIC x20).bind fun y22=>(compactI y22).bind fun y24=>some ((y24.2.drop 0).take y24.1)
theorem C_exposure_times_le {d_:GDirectory} {a_:GEstate}:Le (C_exposure_times d_ a_) (F_1b d_ a_):=by
 unfold C_exposure_times F_1b
 (repeat' (with_reducible first|exact Le.refl|assumption|(refine Le.bind ?_ fun _=>?_)|(refine Le.jn ?_ fun _=>?_)|(refine Le.grp fun _=>?_)|(refine Le.chk ?_)|(refine Le.cond ?_ ?_)|(refine Le.fl (fun _=>?_) fun _=>?_)|(refine Le.sum (fun _=>?_) fun _=>?_)|(refine Le.forL (fun _ _ _=>?_) _ _ _)|(refine Le.foldL (fun _ _ _=>?_) _ _ _)|(refine Le.loop fun _=>?_)|(refine Le.perm fun _=>?_)|(refine Le.amb ?_)|exact Le.sort|apply C_exposure_times_L1_le))
def C_exposure_place_L1 (d_:GDirectory) (a_:GEstate) (p_:Int) (t_:Int) (k75:Int) (a76:Int) (x74:Unit):Option (Fl Unit (Int×Bool)) :=
 (F_4 a_ a76 t_).bind fun y96=>grp ((decide (p_=(-1))&&y96.2)) fun b99=>bif b99 then some (.ex (a76,true)) else bif (!decide (p_=(-1))) then (C_readers_May d_ a_ p_ a76 t_).bind fun y100=>bif y100 then some (.ex (a76,true)) else some (.nx ()) else some (.nx ())
theorem C_exposure_place_L1_le  (d_:GDirectory) (a_:GEstate) (p_:Int) (t_:Int) (k75:Int) (a76:Int) (x74:Unit):Le (C_exposure_place_L1 d_ a_ p_ t_ k75 a76 x74) (F_26 d_ a_ p_ t_ k75 a76 x74):=by
 unfold C_exposure_place_L1 F_26
 (repeat' (with_reducible first|exact Le.refl|assumption|(refine Le.bind ?_ fun _=>?_)|(refine Le.jn ?_ fun _=>?_)|(refine Le.grp fun _=>?_)|(refine Le.chk ?_)|(refine Le.cond ?_ ?_)|(refine Le.fl (fun _=>?_) fun _=>?_)|(refine Le.sum (fun _=>?_) fun _=>?_)|(refine Le.forL (fun _ _ _=>?_) _ _ _)|(refine Le.foldL (fun _ _ _=>?_) _ _ _)|(refine Le.loop fun _=>?_)|(refine Le.perm fun _=>?_)|(refine Le.amb ?_)|exact Le.sort|exact C_readers_May_le))
def C_exposure_place (d_:GDirectory) (a_:GEstate) (content_:Int) (p_:Int) (t_:Int):Option (Int×Bool) :=
 (F_k a_ content_ t_).bind fun y47=>(forL (C_exposure_place_L1 d_ a_ p_ t_) y47 0 ()).bind fun o=>o.elim (fun x101=>some (0,false)) (fun r102=>some r102)
theorem C_exposure_place_le {d_:GDirectory} {a_:GEstate} {content_:Int} {p_:Int} {t_:Int}:Le (C_exposure_place d_ a_ content_ p_ t_) (F_1e d_ a_ content_ p_ t_):=by
 unfold C_exposure_place F_1e
 (repeat' (with_reducible first|exact Le.refl|assumption|(refine Le.bind ?_ fun _=>?_)|(refine Le.jn ?_ fun _=>?_)|(refine Le.grp fun _=>?_)|(refine Le.chk ?_)|(refine Le.cond ?_ ?_)|(refine Le.fl (fun _=>?_) fun _=>?_)|(refine Le.sum (fun _=>?_) fun _=>?_)|(refine Le.forL (fun _ _ _=>?_) _ _ _)|(refine Le.foldL (fun _ _ _=>?_) _ _ _)|(refine Le.loop fun _=>?_)|(refine Le.perm fun _=>?_)|(refine Le.amb ?_)|exact Le.sort|exact C_readers_May_le|apply C_exposure_place_L1_le))
def C_exposure_since_L1 (d_:GDirectory) (a_:GEstate) (content_:Int) (p_:Int) (k35:Int) (a36:Int) (x34:Unit):Option (Fl Unit (Int×Bool)) :=
 (C_exposure_place d_ a_ content_ p_ a36).bind fun y44=>bif y44.2 then some (.ex (a36,true)) else some (.nx ())
theorem C_exposure_since_L1_le  (d_:GDirectory) (a_:GEstate) (content_:Int) (p_:Int) (k35:Int) (a36:Int) (x34:Unit):Le (C_exposure_since_L1 d_ a_ content_ p_ k35 a36 x34) (F_2t d_ a_ content_ p_ k35 a36 x34):=by
 unfold C_exposure_since_L1 F_2t
 (repeat' (with_reducible first|exact Le.refl|assumption|(refine Le.bind ?_ fun _=>?_)|(refine Le.jn ?_ fun _=>?_)|(refine Le.grp fun _=>?_)|(refine Le.chk ?_)|(refine Le.cond ?_ ?_)|(refine Le.fl (fun _=>?_) fun _=>?_)|(refine Le.sum (fun _=>?_) fun _=>?_)|(refine Le.forL (fun _ _ _=>?_) _ _ _)|(refine Le.foldL (fun _ _ _=>?_) _ _ _)|(refine Le.loop fun _=>?_)|(refine Le.perm fun _=>?_)|(refine Le.amb ?_)|exact Le.sort|exact C_exposure_times_le|exact C_exposure_place_le))
def C_exposure_since (d_:GDirectory) (a_:GEstate) (content_:Int) (p_:Int):Option (Int×Bool) :=
 (C_exposure_times d_ a_).bind fun y23=>(forL (C_exposure_since_L1 d_ a_ content_ p_) y23 0 ()).bind fun o=>o.elim (fun x45=>some (0,false)) (fun r46=>some r46)
theorem C_exposure_since_le {d_:GDirectory} {a_:GEstate} {content_:Int} {p_:Int}:Le (C_exposure_since d_ a_ content_ p_) (F_1f d_ a_ content_ p_):=by
 unfold C_exposure_since F_1f
 (repeat' (with_reducible first|exact Le.refl|assumption|(refine Le.bind ?_ fun _=>?_)|(refine Le.jn ?_ fun _=>?_)|(refine Le.grp fun _=>?_)|(refine Le.chk ?_)|(refine Le.cond ?_ ?_)|(refine Le.fl (fun _=>?_) fun _=>?_)|(refine Le.sum (fun _=>?_) fun _=>?_)|(refine Le.forL (fun _ _ _=>?_) _ _ _)|(refine Le.foldL (fun _ _ _=>?_) _ _ _)|(refine Le.loop fun _=>?_)|(refine Le.perm fun _=>?_)|(refine Le.amb ?_)|exact Le.sort|exact C_exposure_times_le|exact C_exposure_place_le|apply C_exposure_since_L1_le))
def C_exposure_Since (d_:GDirectory) (a_:GEstate) (content_:Int) (p_:Int):Option (Int×Bool) :=
 (F_23 d_ a_ content_).bind fun y4=>bif (!decide (y4=0)) then some (0,false) else (C_exposure_since d_ a_ content_ p_).bind fun y6=>some (y6.1,y6.2)
theorem C_exposure_Since_le {d_:GDirectory} {a_:GEstate} {content_:Int} {p_:Int}:Le (C_exposure_Since d_ a_ content_ p_) (F_v d_ a_ content_ p_):=by
 unfold C_exposure_Since F_v
 (repeat' (with_reducible first|exact Le.refl|assumption|(refine Le.bind ?_ fun _=>?_)|(refine Le.jn ?_ fun _=>?_)|(refine Le.grp fun _=>?_)|(refine Le.chk ?_)|(refine Le.cond ?_ ?_)|(refine Le.fl (fun _=>?_) fun _=>?_)|(refine Le.sum (fun _=>?_) fun _=>?_)|(refine Le.forL (fun _ _ _=>?_) _ _ _)|(refine Le.foldL (fun _ _ _=>?_) _ _ _)|(refine Le.loop fun _=>?_)|(refine Le.perm fun _=>?_)|(refine Le.amb ?_)|exact Le.sort|exact C_exposure_since_le))
def C_console_Run_L1 (y2:GDirectory×GEstate×(List Str)×Int) (k144:Int) (a145:GCommand) (x143:List UInt8):Option (List UInt8) :=
 bif decide (a145.Kind=10) then (C_console_who a145 y2.1 y2.2.1 y2.2.2.1).bind fun y173=>chk (strl (y173.length+[10].length)) ((bws x143 (y173++[10])).bind fun y174=>some y174) else bif decide (a145.Kind=11) then jn (α:=Str) ((F_g y2.2.2.1 a145.Name).bind fun y183=>(C_exposure_Since y2.1 y2.2.1 a145.A y183).bind fun y184=>bif y184.2 then (itoaI y184.1).bind fun y185=>some y185 else some [110,101,118,101,114]) fun j180=>chk (strl (j180.length+[10].length)) ((bws x143 (j180++[10])).bind fun y186=>some y186) else some x143
theorem C_console_Run_L1_le  (y2:GDirectory×GEstate×(List Str)×Int) (k144:Int) (a145:GCommand) (x143:List UInt8):Le (C_console_Run_L1 y2 k144 a145 x143) (F_o y2 k144 a145 x143):=by
 unfold C_console_Run_L1 F_o
 (repeat' (with_reducible first|exact Le.refl|assumption|(refine Le.bind ?_ fun _=>?_)|(refine Le.jn ?_ fun _=>?_)|(refine Le.grp fun _=>?_)|(refine Le.chk ?_)|(refine Le.cond ?_ ?_)|(refine Le.fl (fun _=>?_) fun _=>?_)|(refine Le.sum (fun _=>?_) fun _=>?_)|(refine Le.forL (fun _ _ _=>?_) _ _ _)|(refine Le.foldL (fun _ _ _=>?_) _ _ _)|(refine Le.loop fun _=>?_)|(refine Le.perm fun _=>?_)|(refine Le.amb ?_)|exact Le.sort|exact C_console_Make_le|exact C_console_who_le|exact C_exposure_Since_le))
def C_console_Run (l_:List GCommand):Option (Str×Int) :=
 (C_console_Make l_).bind fun y2=>bif (!decide (y2.2.2.2=0)) then some ([],y2.2.2.2) else (foldL (C_console_Run_L1 y2) l_ 0 ([]:Str)).bind fun x187=>(bstr x187).bind fun y189=>some (y189,0)
theorem C_console_Run_le {l_:List GCommand}:Le (C_console_Run l_) (F_h l_):=by
 unfold C_console_Run F_h
 (repeat' (with_reducible first|exact Le.refl|assumption|(refine Le.bind ?_ fun _=>?_)|(refine Le.jn ?_ fun _=>?_)|(refine Le.grp fun _=>?_)|(refine Le.chk ?_)|(refine Le.cond ?_ ?_)|(refine Le.fl (fun _=>?_) fun _=>?_)|(refine Le.sum (fun _=>?_) fun _=>?_)|(refine Le.forL (fun _ _ _=>?_) _ _ _)|(refine Le.foldL (fun _ _ _=>?_) _ _ _)|(refine Le.loop fun _=>?_)|(refine Le.perm fun _=>?_)|(refine Le.amb ?_)|exact Le.sort|exact C_console_Make_le|exact C_console_who_le|exact C_exposure_Since_le|apply C_console_Run_L1_le))
def C_law44_awake:Option Bool :=
 (F_3k [112,101,114,115,111,110,32,97,110,110,10,97,108,108,111,119,32,51,32,97,110,110,32,48,10,112,117,116,32,53,32,55,32,48,10,115,105,110,99,101,32,55,32,97,110,110,10,119,104,111,32,52,32,48,10]).bind fun y2=>(C_console_Run y2.1).bind fun y4=>grp ((decide (y2.2.2=0)&&decide ((y2.1.length:Int)=5))) fun b8=>grp ((b8&&decide (y4.2=0))) fun b9=>grp ((b9&&decide (y4.1=[53,10,105,110,115,105,100,101,32,97,110,110,10]))) fun b10=>some b10
theorem C_law44_awake_le:Le (C_law44_awake ) (F_1o ):=by
 unfold C_law44_awake F_1o
 (repeat' (with_reducible first|exact Le.refl|assumption|(refine Le.bind ?_ fun _=>?_)|(refine Le.jn ?_ fun _=>?_)|(refine Le.grp fun _=>?_)|(refine Le.chk ?_)|(refine Le.cond ?_ ?_)|(refine Le.fl (fun _=>?_) fun _=>?_)|(refine Le.sum (fun _=>?_) fun _=>?_)|(refine Le.forL (fun _ _ _=>?_) _ _ _)|(refine Le.foldL (fun _ _ _=>?_) _ _ _)|(refine Le.loop fun _=>?_)|(refine Le.perm fun _=>?_)|(refine Le.amb ?_)|exact Le.sort|exact C_console_Run_le))
theorem awake44:F_1o=some true:=C_law44_awake_le _ (by kernel_rfl)
end Go.Ab
