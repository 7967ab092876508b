/- What the functions of this seat that lie on the laws' road compute (part LB), each for every input. By AI agents. -/
import Derived.Test.YtoojdaakeiadjaaGreatDoorProg
import Derived.KernelRfl
import Derived.Test.YtoojdaakeiadjaaGreatDoorAbFun
import Derived.Test.YtoojdaakeiadjaaGreatDoorLA
set_option linter.all false
set_option linter.all false
set_option maxRecDepth 20000
set_option maxHeartbeats 2000000
namespace Go.Ab
open Go.Proofs
structure Greader where
 text_:Str
 wrong_:Bool
instance:Inhabited Greader:=⟨⟨default,default⟩⟩
def Greader.v (x:Greader):V:=.agg [.str x.text_,.bool x.wrong_]
attribute [go_sem] Greader.v
noncomputable def F_1p (r_:GRule) (p_:List GKind) (p__:GFinding) (p___:GSpot):Option Bool :=
 (F_a r_.When p_ p__ p___).bind fun y2=>some y2
def mc_1p:MC :=
 (sR [mo (.box (.t 0)) 4,
 mo (.mv (.c (.bool false))) 5]
 (sR [oF 1 4 6,
 mo (.ld (some 5) (.t 6)) 7,
 oL 1 8,
 mo (.ld (some 3) (.t 2)) 9,
 mo (.ld (some 6) (.t 3)) 10,
 mo (.call (.f 42) [(.t 7),(.t 8),(.t 9),(.t 10)] [] []) 11,
 oV 11 5]
 .ret))
theorem Wq_1p {r_:GRule} {p_:List GKind} {p__:GFinding} {p___:GSpot}:Cn Tryz.prog 71 [GRule.v r_,.ptr 1000 0,.ptr 1001 0,.ptr 1002 0] [(1000,.cells [.sl (p_.map GKind.v)]),(1001,.cells [.int .i64 p__.Kind,.int .u64 p__.Fingerprint,.sl (p__.Where.map GSpot.v)]),(1002,.cells [.int .i64 p___.Place.Source,.str p___.Place.Path,.int .i64 p___.Place.Time,.sl (p___.Layers.map GLayer.v),.int .i64 p___.From,.int .i64 p___.To])] (F_1p r_ p_ p__ p___) (fun z=>.bool z) (fun z=>[(1000,.cells [.sl (p_.map GKind.v)]),(1001,.cells [.int .i64 p__.Kind,.int .u64 p__.Fingerprint,.sl (p__.Where.map GSpot.v)]),(1002,.cells [.int .i64 p___.Place.Source,.str p___.Place.Path,.int .i64 p___.Place.Time,.sl (p___.Layers.map GLayer.v),.int .i64 p___.From,.int .i64 p___.To])]):=fun Q Q' h hQ=>by
 refine acallM mc_1p [] [1000,1001,1002] [.t 5] Tryz.func71 fun M=>?_
 unfold F_1p at h
 unfold mc_1p
 replace h:=tY h
 refine tB ?_
 repeat' (first
 | (exact tZ)
 | ((first|refine oblg h ?_|refine roomG h ?_|refine fork h ?_ ?_|refine forkS h ?_ ?_)<;>clear h<;>intro hc h)
 | (obtain ⟨y,hy,h⟩:=h;have hw:=W_a hy;replace hw:=tY hw;(first|refine M.sC hw ?_|refine M.sD hw ?_);clear hw hy;refine tB ?_)
 | (refine tE ?_;(first|rw [M.lok_compU]|rw [M.lokD_compU]);refine tB ?_)
 | (refine tA ?_)
 | fail)
noncomputable def F_24 (fc0_:List GKind) (fc1_:GFinding) (fc2_:GSpot) (k31:Int) (a32:GRule) (x30:Unit):Option (Fl Unit Int) :=
 (F_1p a32 fc0_ fc1_ fc2_).bind fun y40=>bif y40 then some (.ex k31) else some (.nx ())
noncomputable def F_1q (s_:List GRule) (fc0_:List GKind) (fc1_:GFinding) (fc2_:GSpot):Option Int :=
 (forL (F_24 fc0_ fc1_ fc2_) s_ 0 ()).bind fun o=>o.elim (fun x41=>some (-1)) (fun r42=>some r42)
@[irreducible] def mc_24:MC :=
 (sR [mo (.bin false .lss (.t 8) (.t 7)) 9]
 (.seq (.cond (.t 9)
 .skip
 (.exit 0))
 (.seq (.block 1
 (sR [oV 8 10,
 oV 10 5]
 (sR [oV 1 11,
 oV 0 12,
 oV 5 13,
 mo (.iad 7 (.t 12) (.t 13)) 14,
 mo (.ld (some 7) (.t 14)) 15,
 mo (.call (.t 11) [(.t 15)] [1000,1001,1002] []) 16]
 (.cond (.t 16)
 (sR [oV 5 17,
 oV 17 4]
 .ret)
 .skip))))
 (.reg [mo (.bin true .add (.t 8) (cI 1)) 18,
 oV 18 8]))))
def mc_1q:MC :=
 (sR [oC 0 4]
 (.seq (sR [oV 0 6,
 mo (.len false (.t 6)) 7,
 oC 0 8]
 (.block 0
 (.loop mc_24)))
 (sR [oC (-1) 4]
 .ret)))
theorem Wq_1q {s_:List GRule} {fc0_:List GKind} {fc1_:GFinding} {fc2_:GSpot}:Cn Tryz.prog 70 [.sl (s_.map GRule.v),.fn (.func 71) [.ptr 1000 0,.ptr 1001 0,.ptr 1002 0]] [(1000,.cells [.sl (fc0_.map GKind.v)]),(1001,.cells [.int .i64 fc1_.Kind,.int .u64 fc1_.Fingerprint,.sl (fc1_.Where.map GSpot.v)]),(1002,.cells [.int .i64 fc2_.Place.Source,.str fc2_.Place.Path,.int .i64 fc2_.Place.Time,.sl (fc2_.Layers.map GLayer.v),.int .i64 fc2_.From,.int .i64 fc2_.To])] (F_1q s_ fc0_ fc1_ fc2_) (fun z=>.int .i64 z) (fun z=>[(1000,.cells [.sl (fc0_.map GKind.v)]),(1001,.cells [.int .i64 fc1_.Kind,.int .u64 fc1_.Fingerprint,.sl (fc1_.Where.map GSpot.v)]),(1002,.cells [.int .i64 fc2_.Place.Source,.str fc2_.Place.Path,.int .i64 fc2_.Place.Time,.sl (fc2_.Layers.map GLayer.v),.int .i64 fc2_.From,.int .i64 fc2_.To])]):=fun Q Q' h hQ=>by
 refine acallM mc_1q [] [1000,1001,1002] [.t 4] Tryz.func70 fun M=>?_
 unfold F_1q at h
 unfold mc_1q
 replace h:=tY h
 refine tB ?_
 repeat' (first
 | (exact tZ)
 | ((first|refine oblg h ?_|refine roomG h ?_|refine fork h ?_ ?_|refine forkS h ?_ ?_)<;>clear h<;>intro hc h)
 | (obtain ⟨y,hy,h⟩:=h;have hw:=Wq_1p.w hy;replace hw:=tY hw;(first|refine M.sC hw ?_|refine M.sD hw ?_);clear hw hy;refine tB ?_)
 | (refine M.for1 (b:=mc_24) 8 [0,1,7] [1002,1001,1000] (fun x=>[]) (fun x=>[]) [] h ?_ ?_ ?_<;>first
 | (clear h;intro k a x Qn K hK1 hkN1 ha1 h hf;have hl:=fact_int (factsE_find (n:=7) hf.1 rfl);clear hf;have hkd:=kD hkN1;have hkB1:=kB hkN1;have hkI1:=kI (k:=k) (by omega);unfold F_24 at h;unfold mc_24;replace h:=tY h;refine tK ha1 hkd hkN1 hkB1 hkI1 ?_)
  |(clear h;intro x K h;replace h:=And.left (And.intro h trivial);unfold mc_24;replace h:=tY h;refine tB ?_)
  |(clear h;(try refine tB ?_);exact tU0;done))
 | (simp only [ha1])
 | (refine hK1 _ ?_;(try refine tB ?_);refine ⟨_,h,?_⟩;exact tU0;done)
 | (refine tE ?_;(first|rw [M.lok_compU]|rw [M.lokD_compU]);refine tB ?_)
 | (refine tA ?_)
 | fail)
noncomputable def F_1r (l_:List GRule) (kinds_:List GKind) (f_:GFinding) (s_:GSpot):Option (Int×Int) :=
 (F_1q l_ kinds_ f_ s_).bind fun y2=>bif decide (y2<0) then some (1,(-1)) else chk (inb y2 l_.length) (some ((l_.getD (y2).toNat default).Verdict,y2))
def mc_1r:MC :=
 (sR [mo (.box (.t 1)) 5,
 mo (.box (.t 2)) 6,
 mo (.box (.t 3)) 7,
 oC 0 8,
 oC 0 9]
 (sR [oV 0 11,
 mo (.mkfn 71 [(.t 5),(.t 6),(.t 7)]) 12,
 mo (.call (.f 70) [(.t 11),(.t 12)] [5,6,7] []) 13,
 oV 13 10]
 (.seq (sR [oV 10 14,
 mo (.bin false .lss (.t 14) (cI 0)) 15]
 (.cond (.t 15)
 (sR [oC 1 8,
 oC (-1) 9]
 .ret)
 .skip))
 (.seq (.note (.gc [0,10]) (.reg [oV 0 16,
 oV 10 17,
 mo (.iad 7 (.t 16) (.t 17)) 18,
 oF 6 18 19,
 oL 19 20,
 oV 10 21,
 oV 20 8,
 oV 21 9]))
 .ret))))
theorem Wq_1r {l_:List GRule} {kinds_:List GKind} {f_:GFinding} {s_:GSpot}:Cn Tryz.prog 39 [.sl (l_.map GRule.v),.sl (kinds_.map GKind.v),GFinding.v f_,GSpot.v s_] [] (F_1r l_ kinds_ f_ s_) (fun z=>.tup [.int .i64 z.1,.int .i64 z.2]) (fun z=>[]):=fun Q Q' h hQ=>by
 refine acallM mc_1r [] [] [.t 8,.t 9] Tryz.func39 fun M=>?_
 unfold F_1r at h
 unfold mc_1r
 replace h:=tY h
 refine tB ?_
 repeat' (first
 | (exact tZ)
 | ((first|refine oblg h ?_|refine roomG h ?_|refine fork h ?_ ?_|refine forkS h ?_ ?_)<;>clear h<;>intro hc h)
 | (obtain ⟨y,hy,h⟩:=h;have hw:=acall_swe 1002 7 (acall_swe 1001 6 (acall_swe 1000 5 (Wq_1q.w hy)));replace hw:=tY hw;(first|refine M.sC hw ?_|refine M.sD hw ?_);clear hw hy;refine tB ?_)
 | (refine tE ?_;(first|rw [M.lok_compU]|rw [M.lokD_compU]);refine tB ?_)
 | (refine tA ?_)
 | fail)
noncomputable def F_1s (l_:List GRule) (kinds_:List GKind) (f_:GFinding) (spot_:Int):Option (Int×Int) :=
 grp ((decide (spot_<0)||decide ((f_.Where.length:Int)≤spot_))) fun b7=>bif b7 then some (1,(-1)) else (F_x l_).bind fun y8=>bif (!decide (y8=0)) then some (1,(-1)) else chk (inb spot_ f_.Where.length) ((F_1r l_ kinds_ f_ (f_.Where.getD (spot_).toNat default)).bind fun y10=>some (y10.1,y10.2))
@[irreducible] def mg_3n:List MOp:=[gF 12 13 (.mv (.t 3)),
 gF 12 14 (.fad 2 (.t 6)),
 gF 12 15 (.ld none (.t 14)),
 gF 12 16 (.len false (.t 15)),
 gF 12 17 (.bin false .geq (.t 13) (.t 16)),
 mo (.pick (.t 12) (.c (.bool true)) (.t 17)) 18]
def mc_1s:MC :=
 (sR [mo (.box (.t 2)) 6,
 oC 0 8,
 oC 0 9]
 (.seq (.seq (.regI [.op (oV 3 10),
 .op (mo (.bin false .lss (.t 10) (cI 0)) 11),
 .op (oV 11 12),
 .grp mg_3n,
 .op (oV 18 19),
 .op (gF 19 20 (.mv (.t 0))),
 .op (gF 19 21 (.call (.f 33) [(.t 20)] [] [])),
 .op (gF 19 22 (.bin false .neq (.t 21) (cI 0))),
 .op (mo (.pick (.t 19) (.c (.bool true)) (.t 22)) 23)])
 (.cond (.t 23)
 (sR [oC 1 8,
 oC (-1) 9]
 .ret)
 .skip))
 (.seq (.note (.gc [0,1,3,6]) (.regD [oV 0 24,
 oV 1 25,
 mo (.ld (some 3) (.t 6)) 26,
 oF 2 6 27,
 oL 27 28,
 oV 3 29,
 mo (.iad 6 (.t 28) (.t 29)) 30,
 mo (.ld (some 6) (.t 30)) 31,
 mo (.call (.f 39) [(.t 24),(.t 25),(.t 26),(.t 31)] [] []) 32,
 mo (.ext 0 (.t 32)) 33,
 mo (.ext 1 (.t 32)) 34,
 oV 33 8,
 oV 34 9]
 [[],[],[],[],[3],[],[4,5],[6],[0,1,2,7],[8],[8],[9,8,0,1,2,3,4,5,6,7,8,9,10],[10,11,0,1,2,3,4,5,6,7,8,9,10,11]]
 [[],[],[],[],[3],[],[3,4,5],[3,4,5,6],[0,1,2,3,4,5,6,7],[0,1,2,3,4,5,6,7,8],[0,1,2,3,4,5,6,7,8],[0,1,2,3,4,5,6,7,8,9,10],[0,1,2,3,4,5,6,7,8,9,10,11]]))
 .ret)))
theorem Wq_1s {l_:List GRule} {kinds_:List GKind} {f_:GFinding} {spot_:Int}:Cn Tryz.prog 19 [.sl (l_.map GRule.v),.sl (kinds_.map GKind.v),GFinding.v f_,.int .i64 spot_] [] (F_1s l_ kinds_ f_ spot_) (fun z=>.tup [.int .i64 z.1,.int .i64 z.2]) (fun z=>[]):=fun Q Q' h hQ=>by
 refine acallM mc_1s [] [] [.t 8,.t 9] Tryz.func19 fun M=>?_
 unfold F_1s at h
 unfold mc_1s
 replace h:=tY h
 refine tB ?_
 repeat' (first
 | (exact tZ)
 | ((first|refine oblg h ?_|refine roomG h ?_|refine fork h ?_ ?_|refine forkS h ?_ ?_)<;>clear h<;>intro hc h)
 | (obtain ⟨y,hy,h⟩:=h;(first|with_reducible first|have hw:=Wq_x.w hy|have hw:=Wq_1r.w hy);replace hw:=tY hw;(first|refine M.sC hw ?_|refine M.sD hw ?_);clear hw hy;refine tB ?_)
 | (refine M.gv1 (ms:=mg_3n) 18 [13,14,15,16,17] h ?_ ?_<;>first
 | (clear h;intro K hK1;unfold mg_3n;refine tB ?_)
 | (clear h;intro b h;replace h:=tY h;refine tB ?_))
 | (refine hK1 _ ?_;exact tU;done)
 | (refine bfork (fun hc=>?_) (fun hc=>?_))
 | (refine tE ?_;(first|rw [M.lok_compU]|rw [M.lokD_compU]);refine tB ?_)
 | (refine tA ?_)
 | fail)
def F_1t (s_:Str) (suffix_:Str):Option Str :=
 (F_1b s_ suffix_).bind fun y4=>bif y4 then chk (in64 ((s_.length:Int) - (suffix_.length:Int))) (chk (inc 0 ((s_.length:Int) - (suffix_.length:Int)) s_.length) (some (s_.take ((((s_.length:Int) - (suffix_.length:Int))).toNat)))) else some s_
def mc_1t:MC :=
 (sR [mo (.mv (.c (.str []))) 4]
 (.seq (sR [oV 0 5,
 oV 1 6,
 mo (.call (.f 114) [(.t 5),(.t 6)] [] []) 7]
 (.cond (.t 7)
 (sR [oV 0 8,
 oV 0 9,
 mo (.len true (.t 9)) 10,
 oV 1 11,
 mo (.len true (.t 11)) 12,
 mo (.bin true .sub (.t 10) (.t 12)) 13,
 mo (.sls (.t 8) none (some (.t 13))) 14,
 oV 14 4]
 .ret)
 .skip))
 (sR [oV 0 15,
 oV 15 4]
 .ret)))
theorem Wq_1t {s_ suffix_:Str}:Cn Tryz.prog 89 [.str s_,.str suffix_] [] (F_1t s_ suffix_) (fun z=>.str z) (fun z=>[]):=fun Q Q' h hQ=>by
 refine acallM mc_1t [] [] [.t 4] Tryz.func89 fun M=>?_
 unfold F_1t at h
 unfold mc_1t
 replace h:=tY h
 refine tB ?_
 repeat' (first
 | (exact tZ)
 | ((first|refine oblg h ?_|refine roomG h ?_|refine fork h ?_ ?_|refine forkS h ?_ ?_)<;>clear h<;>intro hc h)
 | (obtain ⟨y,hy,h⟩:=h;have hw:=Wq_1b.w hy;replace hw:=tY hw;(first|refine M.sC hw ?_|refine M.sD hw ?_);clear hw hy;refine tB ?_)
 | (refine tE ?_;(first|rw [M.lok_compU]|rw [M.lokD_compU]);refine tB ?_)
 | (refine tA ?_)
 | fail)
def F_16 (s_:Str) (suffix_:Str):Option Str :=
 (F_1t s_ suffix_).bind fun y2=>some y2
def mc_16:MC :=
 (sR [mo (.mv (.c (.str []))) 4]
 (sR [oV 0 5,
 oV 1 6,
 mo (.call (.f 89) [(.t 5),(.t 6)] [] []) 7,
 oV 7 4]
 .ret))
theorem Wq_16 {s_ suffix_:Str}:Cn Tryz.prog 56 [.str s_,.str suffix_] [] (F_16 s_ suffix_) (fun z=>.str z) (fun z=>[]):=fun Q Q' h hQ=>by
 refine acallM mc_16 [] [] [.t 4] Tryz.func56 fun M=>?_
 unfold F_16 at h
 unfold mc_16
 replace h:=tY h
 refine tB ?_
 repeat' (first
 | (exact tZ)
 | ((first|refine oblg h ?_|refine roomG h ?_|refine fork h ?_ ?_|refine forkS h ?_ ?_)<;>clear h<;>intro hc h)
 | (obtain ⟨y,hy,h⟩:=h;have hw:=Wq_1t.w hy;replace hw:=tY hw;(first|refine M.sC hw ?_|refine M.sD hw ?_);clear hw hy;refine tB ?_)
 | (refine tE ?_;(first|rw [M.lok_compU]|rw [M.lokD_compU]);refine tB ?_)
 | (refine tA ?_)
 | fail)
def F_1m (s_:Str) (sep_:Str):Option (Str×Str×Bool) :=
 (ix1 s_ sep_).bind fun y4=>bif decide (0≤y4) then chk (inc 0 y4 s_.length) (chk (in64 (y4+(sep_.length:Int))) (chk (inc (y4+(sep_.length:Int)) (s_.length:Int) s_.length) (some ((s_.take ((y4).toNat)),(s_.drop (((y4+(sep_.length:Int))).toNat)),true)))) else some (s_,[],false)
def mc_1m:MC :=
 (sR [mo (.mv (.c (.str []))) 4,
 mo (.mv (.c (.str []))) 5,
 mo (.mv (.c (.bool false))) 6]
 (.seq (sR [oV 0 8,
 oV 1 9,
 mo (.call (.f 118) [(.t 8),(.t 9)] [] []) 10,
 oV 10 7]
 (sR [oV 7 11,
 mo (.bin false .geq (.t 11) (cI 0)) 12]
 (.cond (.t 12)
 (.seq (.note (.gc [0,1,7]) (.regD [oV 0 13,
 oV 7 14,
 mo (.sls (.t 13) none (some (.t 14))) 15,
 oV 0 16,
 oV 7 17,
 oV 1 18,
 mo (.len true (.t 18)) 19,
 mo (.bin true .add (.t 17) (.t 19)) 20,
 mo (.sls (.t 16) (some (.t 20)) none) 21,
 oV 15 4,
 oV 21 5,
 mo (.mv (.c (.bool true))) 6]
 [[],[],[0,1],[],[],[],[5],[4,6],[3,7],[2,0,1,2],[8,9,0,1,2,3,4,5,6,7,8,9],[10,0,1,2,3,4,5,6,7,8,9,10]]
 [[],[],[0,1],[],[],[],[5],[4,5,6],[3,4,5,6,7],[0,1,2],[0,1,2,3,4,5,6,7,8,9],[0,1,2,3,4,5,6,7,8,9,10]]))
 .ret)
 .skip)))
 (.seq (.note (.gc [0]) (.reg [oV 0 22,
 oV 22 4,
 mo (.mv (.c (.str []))) 5,
 mo (.mv (.c (.bool false))) 6]))
 .ret)))
theorem Wq_1m {s_ sep_:Str}:Cn Tryz.prog 88 [.str s_,.str sep_] [] (F_1m s_ sep_) (fun z=>.tup [.str z.1,.str z.2.1,.bool z.2.2]) (fun z=>[]):=fun Q Q' h hQ=>by
 refine acallM mc_1m [] [] [.t 4,.t 5,.t 6] Tryz.func88 fun M=>?_
 unfold F_1m at h
 unfold mc_1m
 replace h:=tY h
 refine tB ?_
 repeat' (first
 | (exact tZ)
 | ((first|refine oblg h ?_|refine roomG h ?_|refine incG h ?_|refine fork h ?_ ?_|refine forkS h ?_ ?_)<;>clear h<;>intro hc h)
 | (obtain ⟨y,hy,h⟩:=h;have hw:=W_67 hy;replace hw:=tY hw;(first|refine M.sC hw ?_|refine M.sD hw ?_);clear hw hy;refine tB ?_)
 | (refine tE ?_;(first|rw [M.lok_compU]|rw [M.lokD_compU]);refine tB ?_)
 | (refine tA ?_)
 | fail)
def F_v (s_:Str) (sep_:Str):Option (Str×Str×Bool) :=
 (F_1m s_ sep_).bind fun y2=>some (y2.1,y2.2.1,y2.2.2)
def mc_v:MC :=
 (sR [mo (.mv (.c (.str []))) 4,
 mo (.mv (.c (.str []))) 5,
 mo (.mv (.c (.bool false))) 6]
 (sR [oV 0 7,
 oV 1 8,
 mo (.call (.f 88) [(.t 7),(.t 8)] [] []) 9,
 mo (.ext 0 (.t 9)) 10,
 mo (.ext 1 (.t 9)) 11,
 mo (.ext 2 (.t 9)) 12,
 oV 10 4,
 oV 11 5,
 oV 12 6]
 .ret))
theorem Wq_v {s_ sep_:Str}:Cn Tryz.prog 55 [.str s_,.str sep_] [] (F_v s_ sep_) (fun z=>.tup [.str z.1,.str z.2.1,.bool z.2.2]) (fun z=>[]):=fun Q Q' h hQ=>by
 refine acallM mc_v [] [] [.t 4,.t 5,.t 6] Tryz.func55 fun M=>?_
 unfold F_v at h
 unfold mc_v
 replace h:=tY h
 refine tB ?_
 repeat' (first
 | (exact tZ)
 | ((first|refine oblg h ?_|refine roomG h ?_|refine fork h ?_ ?_|refine forkS h ?_ ?_)<;>clear h<;>intro hc h)
 | (obtain ⟨y,hy,h⟩:=h;have hw:=Wq_1m.w hy;replace hw:=tY hw;(first|refine M.sC hw ?_|refine M.sD hw ?_);clear hw hy;refine tB ?_)
 | (refine tE ?_;(first|rw [M.lok_compU]|rw [M.lokD_compU]);refine tB ?_)
 | (refine tA ?_)
 | fail)
def F_1d (s_:Str) (prefix_:Str):Option (Str×Bool) :=
 (F_11 s_ prefix_).bind fun y4=>bif (!y4) then some (s_,false) else chk (inc (prefix_.length:Int) (s_.length:Int) s_.length) (some ((s_.drop (((prefix_.length:Int)).toNat)),true))
def mc_1d:MC :=
 (sR [mo (.mv (.c (.str []))) 4,
 mo (.mv (.c (.bool false))) 5]
 (.seq (sR [oV 0 6,
 oV 1 7,
 mo (.call (.f 113) [(.t 6),(.t 7)] [] []) 8,
 mo (.not (.t 8)) 9]
 (.cond (.t 9)
 (sR [oV 0 10,
 oV 10 4,
 mo (.mv (.c (.bool false))) 5]
 .ret)
 .skip))
 (sR [oV 0 11,
 oV 1 12,
 mo (.len true (.t 12)) 13,
 mo (.sls (.t 11) (some (.t 13)) none) 14,
 oV 14 4,
 mo (.mv (.c (.bool true))) 5]
 .ret)))
theorem Wq_1d {s_ prefix_:Str}:Cn Tryz.prog 90 [.str s_,.str prefix_] [] (F_1d s_ prefix_) (fun z=>.tup [.str z.1,.bool z.2]) (fun z=>[]):=fun Q Q' h hQ=>by
 refine acallM mc_1d [] [] [.t 4,.t 5] Tryz.func90 fun M=>?_
 unfold F_1d at h
 unfold mc_1d
 replace h:=tY h
 refine tB ?_
 repeat' (first
 | (exact tZ)
 | ((first|refine oblg h ?_|refine roomG h ?_|refine fork h ?_ ?_|refine forkS h ?_ ?_)<;>clear h<;>intro hc h)
 | (obtain ⟨y,hy,h⟩:=h;have hw:=Wq_11.w hy;replace hw:=tY hw;(first|refine M.sC hw ?_|refine M.sD hw ?_);clear hw hy;refine tB ?_)
 | (refine tE ?_;(first|rw [M.lok_compU]|rw [M.lokD_compU]);refine tB ?_)
 | (refine tA ?_)
 | fail)
def F_k (s_:Str) (prefix_:Str):Option (Str×Bool) :=
 (F_1d s_ prefix_).bind fun y2=>some (y2.1,y2.2)
def mc_k:MC :=
 (sR [mo (.mv (.c (.str []))) 4,
 mo (.mv (.c (.bool false))) 5]
 (sR [oV 0 6,
 oV 1 7,
 mo (.call (.f 90) [(.t 6),(.t 7)] [] []) 8,
 mo (.ext 0 (.t 8)) 9,
 mo (.ext 1 (.t 8)) 10,
 oV 9 4,
 oV 10 5]
 .ret))
theorem Wq_k {s_ prefix_:Str}:Cn Tryz.prog 57 [.str s_,.str prefix_] [] (F_k s_ prefix_) (fun z=>.tup [.str z.1,.bool z.2]) (fun z=>[]):=fun Q Q' h hQ=>by
 refine acallM mc_k [] [] [.t 4,.t 5] Tryz.func57 fun M=>?_
 unfold F_k at h
 unfold mc_k
 replace h:=tY h
 refine tB ?_
 repeat' (first
 | (exact tZ)
 | ((first|refine oblg h ?_|refine roomG h ?_|refine fork h ?_ ?_|refine forkS h ?_ ?_)<;>clear h<;>intro hc h)
 | (obtain ⟨y,hy,h⟩:=h;have hw:=Wq_1d.w hy;replace hw:=tY hw;(first|refine M.sC hw ?_|refine M.sD hw ?_);clear hw hy;refine tB ?_)
 | (refine tE ?_;(first|rw [M.lok_compU]|rw [M.lokD_compU]);refine tB ?_)
 | (refine tA ?_)
 | fail)
def F_5 (r_:Greader) (s_:Str):Option (Bool×Greader) :=
 (F_k r_.text_ s_).bind fun y2=>some (y2.2,(Greader.mk y2.1 r_.wrong_))
def mc_5:MC :=
 (sR [mo (.mv (.c (.bool false))) 4]
 (sR [oV 0 8,
 mo (.nck (.t 8)) 9,
 oF 0 9 10,
 oL 10 11,
 oV 1 12,
 mo (.call (.f 57) [(.t 11),(.t 12)] [] []) 13,
 oV 13 7,
 mo (.ext 0 (.t 7)) 14,
 mo (.ext 1 (.t 7)) 15,
 oV 14 5,
 oV 15 6]
 (.seq (.note (.gc [0,5,6]) (.reg [oV 0 16,
 oV 5 17,
 mo (.nck (.t 16)) 18,
 oF 0 18 19,
 ⟨.st 1 (.t 19) (.t 17),none,none⟩]))
 (sR [oV 6 20,
 oV 20 4]
 .ret))))
theorem Wq_5 {r_:Greader} {s_:Str}:Cn Tryz.prog 91 [.ptr 1000 0,.str s_] [(1000,.cells [.str r_.text_,.bool r_.wrong_])] (F_5 r_ s_) (fun z=>.bool z.1) (fun z=>[(1000,.cells [.str z.2.text_,.bool z.2.wrong_])]):=fun Q Q' h hQ=>by
 refine acallM mc_5 [] [1000] [.t 4] Tryz.func91 fun M=>?_
 unfold F_5 at h
 unfold mc_5
 replace h:=tY h
 refine tB ?_
 repeat' (first
 | (exact tZ)
 | ((first|refine oblg h ?_|refine roomG h ?_|refine fork h ?_ ?_|refine forkS h ?_ ?_)<;>clear h<;>intro hc h)
 | (obtain ⟨y,hy,h⟩:=h;have hw:=Wq_k.w hy;replace hw:=tY hw;(first|refine M.sC hw ?_|refine M.sD hw ?_);clear hw hy;refine tB ?_)
 | (refine tE ?_;(first|rw [M.lok_compU]|rw [M.lokD_compU]);refine tB ?_)
 | (refine tA ?_)
 | fail)
def F_q (r_:Greader) (s_:Str):Option Greader :=
 (F_5 r_ s_).bind fun y2=>bif (!y2.1) then some (Greader.mk y2.2.text_ true) else some y2.2
def mc_q:MC :=
 (sR [oV 0 4,
 oV 1 5,
 mo (.call (.f 91) [(.t 4),(.t 5)] [1000] []) 6,
 mo (.not (.t 6)) 7]
 (.cond (.t 7)
 (.reg [oV 0 8,
 mo (.nck (.t 8)) 9,
 oF 1 9 10,
 ⟨.st 1 (.t 10) (.c (.bool true)),none,none⟩])
 .skip))
theorem Wq_q {r_:Greader} {s_:Str}:Cn Tryz.prog 92 [.ptr 1000 0,.str s_] [(1000,.cells [.str r_.text_,.bool r_.wrong_])] (F_q r_ s_) (fun z=>.tup []) (fun z=>[(1000,.cells [.str z.text_,.bool z.wrong_])]):=fun Q Q' h hQ=>by
 refine acallM mc_q [] [1000] [] Tryz.func92 fun M=>?_
 unfold F_q at h
 unfold mc_q
 replace h:=tY h
 refine tB ?_
 repeat' (first
 | (exact tZ)
 | ((first|refine oblg h ?_|refine roomG h ?_|refine fork h ?_ ?_|refine forkS h ?_ ?_)<;>clear h<;>intro hc h)
 | (obtain ⟨y,hy,h⟩:=h;have hw:=Wq_5.w hy;replace hw:=tY hw;(first|refine M.sC hw ?_|refine M.sD hw ?_);clear hw hy;refine tB ?_)
 | (refine tE ?_;(first|rw [M.lok_compU]|rw [M.lokD_compU]);refine tB ?_)
 | (refine tA ?_)
 | fail)
def F_d (op_:Int):Option Str :=
 chk (inb op_ [[],[107,105,110,100],[112,97,116,104],[101,110,100,115],[115,111,117,114,99,101],[100,101,112,116,104],[108,101,110,103,116,104],[112,114,105,110,116],[98,101,102,111,114,101],[110,111,116],[97,110,100],[111,114]].length) (some ([[],[107,105,110,100],[112,97,116,104],[101,110,100,115],[115,111,117,114,99,101],[100,101,112,116,104],[108,101,110,103,116,104],[112,114,105,110,116],[98,101,102,111,114,101],[110,111,116],[97,110,100],[111,114]].getD ((op_).toNat) default))
def mc_d:MC :=
 (sR [mo (.mv (.c (.str []))) 2]
 (sR [mo (.bslice 1 [(.c (.str [])),(.c (.str [107,105,110,100])),(.c (.str [112,97,116,104])),(.c (.str [101,110,100,115])),(.c (.str [115,111,117,114,99,101])),(.c (.str [100,101,112,116,104])),(.c (.str [108,101,110,103,116,104])),(.c (.str [112,114,105,110,116])),(.c (.str [98,101,102,111,114,101])),(.c (.str [110,111,116])),(.c (.str [97,110,100])),(.c (.str [111,114]))]) 3,
 oV 0 4,
 mo (.iad 1 (.t 3) (.t 4)) 5,
 oL 5 6,
 oV 6 2]
 .ret))
theorem Wq_d {op_:Int}:Cn Tryz.prog 93 [.int .i64 op_] [] (F_d op_) (fun z=>.str z) (fun z=>[]):=fun Q Q' h hQ=>by
 refine acallM mc_d [] [] [.t 2] Tryz.func93 fun M=>?_
 unfold F_d at h
 unfold mc_d
 replace h:=tY h
 refine tB ?_
 repeat' (first
 | (exact tZ)
 | ((first|refine oblg h ?_|refine roomG h ?_|refine inbG h ?_|refine fork h ?_ ?_|refine forkS h ?_ ?_)<;>clear h<;>intro hc h)
 | (refine tE4 V.str ?_;(first|rw [M.lok_compU]|rw [M.lokD_compU]|(simp only [V.cells];first|rw [M.lok_comp]|rw [M.lokD_comp]));refine tB ?_)
 | (refine tE ?_;(first|rw [M.lok_compU]|rw [M.lokD_compU]);refine tB ?_)
 | (refine tA ?_)
 | fail)
def F_w (r_:Greader):Option (Str×Greader) :=
 (trimLI r_.text_ [48,49,50,51,52,53,54,55,56,57]).bind fun y2=>chk (in64 ((r_.text_.length:Int) - (y2.length:Int))) (chk (inc 0 ((r_.text_.length:Int) - (y2.length:Int)) r_.text_.length) (some ((r_.text_.take ((((r_.text_.length:Int) - (y2.length:Int))).toNat)),(Greader.mk y2 r_.wrong_))))
def mc_w:MC :=
 (sR [mo (.mv (.c (.str []))) 2]
 (sR [oV 0 5,
 mo (.nck (.t 5)) 6,
 oF 0 6 7,
 oL 7 8,
 mo (.call (.f 141) [(.t 8),(.c (.str [48,49,50,51,52,53,54,55,56,57]))] [] []) 9,
 oV 9 3]
 (.seq (.regD [oV 0 10,
 mo (.nck (.t 10)) 11,
 oF 0 11 12,
 oL 12 13,
 oV 0 14,
 mo (.nck (.t 14)) 15,
 oF 0 15 16,
 oL 16 17,
 mo (.len true (.t 17)) 18,
 oV 3 19,
 mo (.len true (.t 19)) 20,
 mo (.bin true .sub (.t 18) (.t 20)) 21,
 mo (.sls (.t 13) none (some (.t 21))) 22,
 oV 22 4]
 [[],[0],[1],[2],[],[4],[5],[6],[7],[],[9],[8,10],[3,11],[12,0,1,2,3,4,5,6,7,8,9,10,11,12]]
 [[],[0],[0,1],[0,1,2],[],[4],[4,5],[4,5,6],[4,5,6,7],[],[9],[4,5,6,7,8,9,10],[0,1,2,3,4,5,6,7,8,9,10,11],[0,1,2,3,4,5,6,7,8,9,10,11,12]])
 (.seq (.note (.gc [0,3,4]) (.reg [oV 0 23,
 oV 3 24,
 mo (.nck (.t 23)) 25,
 oF 0 25 26,
 ⟨.st 1 (.t 26) (.t 24),none,none⟩]))
 (sR [oV 4 27,
 oV 27 2]
 .ret)))))
theorem Wq_w {r_:Greader}:Cn Tryz.prog 120 [.ptr 1000 0] [(1000,.cells [.str r_.text_,.bool r_.wrong_])] (F_w r_) (fun z=>.str z.1) (fun z=>[(1000,.cells [.str z.2.text_,.bool z.2.wrong_])]):=fun Q Q' h hQ=>by
 refine acallM mc_w [] [1000] [.t 2] Tryz.func120 fun M=>?_
 unfold F_w at h
 unfold mc_w
 replace h:=tY h
 refine tB ?_
 repeat' (first
 | (exact tZ)
 | ((first|refine oblg h ?_|refine roomG h ?_|refine fork h ?_ ?_|refine forkS h ?_ ?_)<;>clear h<;>intro hc h)
 | (obtain ⟨y,hy,h⟩:=h;have hw:=W_65 hy;replace hw:=tY hw;(first|refine M.sC hw ?_|refine M.sD hw ?_);clear hw hy;refine tB ?_)
 | (refine tE ?_;(first|rw [M.lok_compU]|rw [M.lokD_compU]);refine tB ?_)
 | (refine tA ?_)
 | fail)
noncomputable def F_y (x409:Int×Greader):Option (Fl (Int×Greader) (Sum Greader (GTerm×Greader))) :=
 bif decide (x409.1≤8) then (F_d x409.1).bind fun y536=>chk (strl (y536.length+[32].length)) ((F_5 x409.2 (y536++[32])).bind fun y537=>bif (!y537.1) then chk (in64 (x409.1+1)) (some (.nx ((x409.1+1),y537.2))) else jn (α:=Bool) (bif decide (x409.1=1) then some true else bif decide (x409.1=2) then some true else some (decide (x409.1=3))) fun j554=>bif j554 then (F_q y537.2 [34]).bind fun y556=>(F_v y556.text_ [34]).bind fun y558=>grp ((y556.wrong_||(!y558.2.2))) fun b559=>some (.ex (.inr ((GTerm.mk x409.1 y558.1 0 0 []),(Greader.mk y558.2.1 b559)))) else bif decide (x409.1=7) then (F_w y537.2).bind fun y562=>(puE y562.1 10 64).bind fun y563=>grp ((y562.2.wrong_||(!y563.2))) fun b564=>some (.ex (.inr ((GTerm.mk x409.1 [] 0 y563.1 []),(Greader.mk y562.2.text_ b564)))) else (F_w y537.2).bind fun y567=>(atoiE y567.1).bind fun y568=>grp ((y567.2.wrong_||(!y568.2))) fun b569=>some (.ex (.inr ((GTerm.mk x409.1 [] y568.1 0 []),(Greader.mk y567.2.text_ b569))))) else some (.ex (.inl x409.2))
noncomputable def F_13 (r_:Greader):Option (GTerm×Greader) :=
 (loop F_y (1,r_)).bind fun r570=>Sum.elim (fun u571=>some ((GTerm.mk 0 [] 0 0 []),(Greader.mk u571.text_ true))) (fun u572=>some u572) r570
@[irreducible] def mg_3o:List MOp:=[gF 70 71 (.mv (.t 7)),
 gF 70 72 (.not (.t 71)),
 mo (.pick (.t 70) (.c (.bool true)) (.t 72)) 73]
@[irreducible] def mg_3p:List MOp:=[gF 91 92 (.mv (.t 9)),
 gF 91 93 (.mp (.ifz true) [(.t 92)]),
 mo (.pick (.t 91) (.c (.bool true)) (.t 93)) 94]
@[irreducible] def mg_3q:List MOp:=[gF 38 39 (.mv (.t 11)),
 gF 38 40 (.mp (.ifz true) [(.t 39)]),
 mo (.pick (.t 38) (.c (.bool true)) (.t 40)) 41]
@[irreducible] def mc_3r:MC :=
 (.cond (.t 44)
 (sR [oV 0 48,
 mo (.call (.f 92) [(.t 48),(.c (.str [34]))] [1000] []) 49]
 (sR [oV 0 51,
 mo (.nck (.t 51)) 52,
 oF 0 52 53,
 oL 53 54,
 mo (.call (.f 55) [(.t 54),(.c (.str [34]))] [] []) 55,
 oV 55 50,
 mo (.ext 0 (.t 50)) 56,
 mo (.ext 1 (.t 50)) 57,
 mo (.ext 2 (.t 50)) 58,
 oV 56 5,
 oV 57 6,
 oV 58 7]
 (.seq (.note (.gc [0,2,4,5,6,7,71,72]) (.reg [oV 0 59,
 oV 5 60,
 oV 6 61,
 oF 1 4 62,
 ⟨.st 1 (.t 62) (.t 60),none,none⟩,
 mo (.nck (.t 59)) 63,
 oF 0 63 64,
 ⟨.st 1 (.t 64) (.t 61),none,none⟩]))
 (.note (.gc [0,2,4,7,71,72]) (.regI [.op (oV 0 65),
 .op (oV 0 66),
 .op (mo (.nck (.t 66)) 67),
 .op (oF 1 67 68),
 .op (oL 68 69),
 .op (oV 69 70),
 .grp mg_3o,
 .op (mo (.nck (.t 65)) 74),
 .op (oF 1 74 75),
 .op ⟨.st 1 (.t 75) (.t 73),none,none⟩])))))
 (sR [mo (.bin false .eql (.t 24) (cI 7)) 77,
 oV 77 76]
 (.cond (.t 76)
 (sR [oV 0 79,
 mo (.call (.f 120) [(.t 79)] [1000] []) 80,
 mo (.call (.f 119) [(.t 80),(cI 10),(cI 64)] [] []) 81,
 oV 81 78,
 mo (.ext 0 (.t 78)) 82,
 mo (.ext 1 (.t 78)) 83,
 oV 82 8,
 oV 83 9]
 (.seq (.note (.gc [0,2,4,8,9,92,93]) (.reg [oV 8 84,
 oF 3 4 85,
 ⟨.st 1 (.t 85) (.t 84),none,none⟩]))
 (.regI [.op (oV 0 86),
 .op (oV 0 87),
 .op (mo (.nck (.t 87)) 88),
 .op (oF 1 88 89),
 .op (oL 89 90),
 .op (oV 90 91),
 .grp mg_3p,
 .op (mo (.nck (.t 86)) 95),
 .op (oF 1 95 96),
 .op ⟨.st 1 (.t 96) (.t 94),none,none⟩])))
 (sR [oV 0 26,
 mo (.call (.f 120) [(.t 26)] [1000] []) 27,
 mo (.call (.f 121) [(.t 27)] [] []) 28,
 oV 28 25,
 mo (.ext 0 (.t 25)) 29,
 mo (.ext 1 (.t 25)) 30,
 oV 29 10,
 oV 30 11]
 (.seq (.note (.gc [0,2,4,10,11,39,40]) (.reg [oV 10 31,
 oF 2 4 32,
 ⟨.st 1 (.t 32) (.t 31),none,none⟩]))
 (.regI [.op (oV 0 33),
 .op (oV 0 34),
 .op (mo (.nck (.t 34)) 35),
 .op (oF 1 35 36),
 .op (oL 36 37),
 .op (oV 37 38),
 .grp mg_3q,
 .op (mo (.nck (.t 33)) 42),
 .op (oF 1 42 43),
 .op ⟨.st 1 (.t 43) (.t 41),none,none⟩]))))))
@[irreducible] def mc_y:MC :=
 (.seq (sR [oV 3 12,
 mo (.bin false .leq (.t 12) (cI 8)) 13]
 (.cond (.t 13)
 .skip
 (.exit 0)))
 (.seq (.block 1
 (.seq (sR [oV 0 16,
 oV 3 17,
 mo (.call (.f 93) [(.t 17)] [] []) 18,
 mo (.bin false .add (.t 18) (.c (.str [32]))) 19,
 mo (.call (.f 91) [(.t 16),(.t 19)] [1000] []) 20,
 mo (.not (.t 20)) 21]
 (.cond (.t 21)
 (.exit 1)
 .skip))
 (.seq (.note (.gc [0,2,3,39,40,71,72,92,93]) (.reg [oV 3 22,
 mo (.build [(.int .i64 0),(.str []),(.int .i64 0),(.int .u64 0),(.sl [])] [(0,1,(.t 22))]) 23,
 mo (.alloc [(.int .i64 0),(.str []),(.int .i64 0),(.int .u64 0),(.sl [])]) 4,
 ⟨.st 5 (.t 4) (.t 23),none,none⟩]))
 (.seq (sR [oV 3 24]
 (.block 2
 (.cut (sR [mo (.bin false .eql (.t 24) (cI 1)) 45,
 oV 45 44]
 (.cond (.t 44)
 .skip
 (sR [mo (.bin false .eql (.t 24) (cI 2)) 46,
 oV 46 44]
 (.cond (.t 44)
 .skip
 (.reg [mo (.bin false .eql (.t 24) (cI 3)) 47,
 oV 47 44])))))
 mc_3r)))
 (sR [mo (.ld (some 5) (.t 4)) 97,
 ⟨.st 5 (.t 2) (.t 97),none,none⟩]
 .ret)))))
 (.note (.gc [0,2,3,39,40,71,72,92,93]) (.reg [oV 3 14,
 mo (.bin true .add (.t 14) (cI 1)) 15,
 oV 15 3]))))
def mc_13:MC :=
 (sR [mo (.alloc [(.int .i64 0),(.str []),(.int .i64 0),(.int .u64 0),(.sl [])]) 2]
 (.seq (sR [oC 1 3]
 (.block 0
 (.loop mc_y)))
 (sR [oV 0 98,
 mo (.nck (.t 98)) 99,
 oF 1 99 100,
 ⟨.st 1 (.t 100) (.c (.bool true)),none,none⟩]
 (sR [mo (.build [(.int .i64 0),(.str []),(.int .i64 0),(.int .u64 0),(.sl [])] []) 101,
 ⟨.st 5 (.t 2) (.t 101),none,none⟩]
 .ret))))
theorem Wq_13 {r_:Greader}:Cn Tryz.prog 94 [.ptr 1000 0] [(1000,.cells [.str r_.text_,.bool r_.wrong_])] (F_13 r_) (fun z=>GTerm.v z.1) (fun z=>[(1000,.cells [.str z.2.text_,.bool z.2.wrong_])]):=fun Q Q' h hQ=>by
 refine acallM mc_13 [.fzc 2] [1000] [.c 2 (some 5)] Tryz.func94 fun M=>?_
 unfold F_13 at h
 unfold mc_13
 replace h:=tY h
 refine tB ?_
 repeat' (first
 | (exact tZ)
 | ((first|refine oblg h ?_|refine roomG h ?_|refine fork h ?_ ?_|refine forkS h ?_ ?_)<;>clear h<;>intro hc h)
 | (obtain ⟨y,hy,h⟩:=h;(first|with_reducible first|have hw:=Wq_d.w hy|have hw:=Wq_5.w hy|have hw:=Wq_q.w hy|have hw:=Wq_v.w hy|have hw:=Wq_w.w hy|have hw:=W_61 hy|have hw:=W_63 hy);replace hw:=tY hw;(first|refine M.sC hw ?_|refine M.sD hw ?_);clear hw hy;refine tB ?_)
 | (refine M.gv1 (ms:=mg_3o) 73 [71,72] h ?_ ?_<;>first
 | (clear h;intro K hK1;unfold mg_3o;refine tB ?_)
 | (clear h;intro b h;replace h:=tY h;refine tB ?_))
 | (refine M.gv1 (ms:=mg_3p) 94 [92,93] h ?_ ?_<;>first
 | (clear h;intro K hK2;unfold mg_3p;refine tB ?_)
 | (clear h;intro b h;replace h:=tY h;refine tB ?_))
 | (refine M.gv1 (ms:=mg_3q) 41 [39,40] h ?_ ?_<;>first
 | (clear h;intro K hK3;unfold mg_3q;refine tB ?_)
 | (clear h;intro b h;replace h:=tY h;refine tB ?_))
 | (refine M.jn1 (b:=mc_3r) [0,2,4,24] [4,2,1000] (fun y=>[(44,.bool y)]) (fun y=>[]) [] h ?_ ?_<;>first
 | (clear h;intro Qn K hK4 h;replace h:=tY h;refine tB ?_)
  |(clear h;intro y h;unfold mc_3r;replace h:=tY h;refine tB ?_))
 | (refine M.wh1 (b:=mc_y) [0,2] [2] (fun x=>[(3,.int .i64 x.1)]) (fun x=>[.o 1000 (.cells [.str x.2.text_,.bool x.2.wrong_])]) [] h ?_ ?_<;>first
 | (clear h;intro x Qn K hK5 h;unfold F_y at h;unfold mc_y;replace h:=tY h;refine tB ?_)
  |(clear h;(try refine tB ?_);exact tU0;done))
 | ((first|refine hK1 _ ?_|refine hK2 _ ?_|refine hK3 _ ?_);exact tU;done)
 | ((first|refine hK4 _ ?_|refine hK5 _ ?_);(try refine tB ?_);refine ⟨_,h,?_⟩;exact tU0;done)
 | (refine bfork (fun hc=>?_) (fun hc=>?_))
 | (refine tE ?_;(first|rw [M.lok_compU]|rw [M.lokD_compU]);refine tB ?_)
 | (refine tA ?_)
 | fail)
noncomputable def FR_0:Nat→Greader→Int→Option (GTerm×Greader)
 | 0,_,_=>none
 | n+1,r_,deep_ =>
 grp ((r_.wrong_||decide (20<deep_))) fun b81=>bif b81 then some ((GTerm.mk 0 [] 0 0 []),(Greader.mk r_.text_ true)) else (F_5 r_ [110,111,116,32,40]).bind fun y83=>bif y83.1 then chk (in64 (deep_+1)) ((FR_0 n y83.2 (deep_+1)).bind fun y85=>(F_q y85.2 [41]).bind fun y87=>some ((GTerm.mk 9 [] 0 0 [y85.1]),y87)) else (F_5 y83.2 [40]).bind fun y89=>bif y89.1 then chk (in64 (deep_+1)) ((FR_0 n y89.2 (deep_+1)).bind fun y91=>jn (α:=Int) ((F_12 y91.2.text_ [32,111,114,32]).bind fun y96=>bif y96 then some 11 else some 10) fun j94=>(loop (fun (x148:Int×(List GTerm)×Greader)=>((F_d x148.1).bind fun y164=>chk (strl ([32].length+y164.length)) (chk (strl ((([32]:Str)++y164).length+[32].length)) ((F_5 x148.2.2 ((([32]:Str)++y164)++[32])).bind fun y165=>bif y165.1 then chk (in64 (deep_+1)) ((FR_0 n y165.2 (deep_+1)).bind fun y166=>chk (room (x148.2.1.length+[y166.1].length) 64) (some (.nx (x148.1,(x148.2.1++[y166.1]),y166.2)))) else some (.ex (x148.1,x148.2.1,y165.2)))):Option (Fl (Int×(List GTerm)×Greader) (Int×(List GTerm)×Greader)))) (j94,[y91.1],y91.2)).bind fun r167=>(F_q r167.2.2 [41]).bind fun y169=>some ((GTerm.mk r167.1 [] 0 0 r167.2.1),y169)) else (F_13 y89.2).bind fun y171=>some (y171.1,y171.2)
noncomputable def F_0 (r_:Greader) (deep_:Int):Option (GTerm×Greader):=lim fun n=>FR_0 n r_ deep_
@[irreducible] def mg_3s:List MOp:=[gF 12 13 (.mv (.t 1)),
 gF 12 14 (.bin false .gtr (.t 13) (cI 20)),
 mo (.pick (.t 12) (.c (.bool true)) (.t 14)) 15]
@[irreducible] def mc_3t:MC :=
 (.seq (sR [oV 0 47,
 oF 0 6 48,
 oL 48 49,
 mo (.call (.f 93) [(.t 49)] [] []) 50,
 mo (.bin false .add (.c (.str [32])) (.t 50)) 51,
 mo (.bin false .add (.t 51) (.c (.str [32]))) 52,
 mo (.call (.f 91) [(.t 47),(.t 52)] [1000] []) 53]
 (.cond (.t 53)
 .skip
 (.exit 1)))
 (.block 2
 (.regD [oF 4 6 54,
 oL 54 55,
 oV 0 56,
 oV 1 57,
 mo (.bin true .add (.t 57) (cI 1)) 58,
 mo (.call (.f 58) [(.t 56),(.t 58)] [1000] []) 59,
 mo (.bslice 5 [(.t 59)]) 60,
 mo (.app 5 64 (.t 55) (.t 60)) 61,
 oF 4 6 62,
 ⟨.st 1 (.t 62) (.t 61),none,none⟩]
 [[],[0],[],[],[3],[2,4],[5],[1,6,5],[0,1,2,3,4,5,6,7],[8,7,7,0,1,2,3,4,5,6,7]]
 [[],[0],[],[],[3],[2,3,4],[2,3,4,5],[0,1,2,3,4,5,6],[0,1,2,3,4,5,6,7],[0,1,2,3,4,5,6,7,8]])))
@[irreducible] def mc_3u:MC :=
 (.seq (.block 1
 (.loop mc_3t))
 (sR [oV 0 63,
 mo (.call (.f 92) [(.t 63),(.c (.str [41]))] [1000] []) 64]
 (sR [mo (.ld (some 5) (.t 6)) 65,
 ⟨.st 5 (.t 4) (.t 65),none,none⟩]
 .ret)))
def mc_0:MC :=
 (sR [mo (.alloc [(.int .i64 0),(.str []),(.int .i64 0),(.int .u64 0),(.sl [])]) 4]
 (.seq (.block 0
 (.seq (.regI [.op (oV 0 8),
 .op (mo (.nck (.t 8)) 9),
 .op (oF 1 9 10),
 .op (oL 10 11),
 .op (oV 11 12),
 .grp mg_3s,
 .op (oV 15 7)])
 (.cond (.t 7)
 (.seq (.note (.gc [0,4]) (.reg [oV 0 16,
 mo (.nck (.t 16)) 17,
 oF 1 17 18,
 ⟨.st 1 (.t 18) (.c (.bool true)),none,none⟩]))
 (sR [mo (.build [(.int .i64 0),(.str []),(.int .i64 0),(.int .u64 0),(.sl [])] []) 19,
 ⟨.st 5 (.t 4) (.t 19),none,none⟩]
 .ret))
 (sR [oV 0 21,
 mo (.call (.f 91) [(.t 21),(.c (.str [110,111,116,32,40]))] [1000] []) 22,
 oV 22 20]
 (.cond (.t 20)
 (.seq (.note (.gc [0,1,4]) (.reg [oV 0 23,
 oV 1 24,
 mo (.bin true .add (.t 24) (cI 1)) 25,
 mo (.call (.f 58) [(.t 23),(.t 25)] [1000] []) 26,
 mo (.bslice 5 [(.t 26)]) 27,
 mo (.build [(.int .i64 0),(.str []),(.int .i64 0),(.int .u64 0),(.sl [])] [(0,1,(cI 9)),(4,1,(.t 27))]) 28,
 mo (.alloc [(.int .i64 0),(.str []),(.int .i64 0),(.int .u64 0),(.sl [])]) 5,
 ⟨.st 5 (.t 5) (.t 28),none,none⟩]))
 (sR [oV 0 29,
 mo (.call (.f 92) [(.t 29),(.c (.str [41]))] [1000] []) 30]
 (sR [mo (.ld (some 5) (.t 5)) 31,
 ⟨.st 5 (.t 4) (.t 31),none,none⟩]
 .ret)))
 (.seq (.note (.gc [0,1,4]) (.reg [oV 0 33,
 mo (.call (.f 91) [(.t 33),(.c (.str [40]))] [1000] []) 34,
 oV 34 32]))
 (.cond (.t 32)
 (sR [oV 0 35,
 oV 1 36,
 mo (.bin true .add (.t 36) (cI 1)) 37,
 mo (.call (.f 58) [(.t 35),(.t 37)] [1000] []) 38,
 mo (.bslice 5 [(.t 38)]) 39,
 mo (.build [(.int .i64 0),(.str []),(.int .i64 0),(.int .u64 0),(.sl [])] [(0,1,(cI 10)),(4,1,(.t 39))]) 40,
 mo (.alloc [(.int .i64 0),(.str []),(.int .i64 0),(.int .u64 0),(.sl [])]) 6,
 ⟨.st 5 (.t 6) (.t 40),none,none⟩]
 (.cut (.seq (.note (.gc [0,1,4,6]) (.reg [oV 0 41,
 mo (.nck (.t 41)) 42,
 oF 0 42 43,
 oL 43 44,
 mo (.call (.f 78) [(.t 44),(.c (.str [32,111,114,32]))] [] []) 45]))
 (.cond (.t 45)
 (.reg [oF 0 6 46,
 ⟨.st 1 (.t 46) (cI 11),none,none⟩])
 .skip))
 mc_3u))
 .skip)))))))
 (sR [oV 0 66,
 mo (.call (.f 94) [(.t 66)] [1000] []) 67,
 ⟨.st 5 (.t 4) (.t 67),none,none⟩]
 .ret)))
theorem Wq_0 {n:Nat} (ih_rule_reader_condition:∀{r_:Greader} {deep_:Int} {y:GTerm×Greader},FR_0 n r_ deep_=some y→ACall Tryz.prog 58 [.ptr 1000 0,.int .i64 deep_] [(1000,.cells [.str r_.text_,.bool r_.wrong_])] (fun r H=>r=GTerm.v y.1∧H=[(1000,.cells [.str y.2.text_,.bool y.2.wrong_])])) (r_:Greader) (deep_:Int) {Q:GTerm×Greader→Prop} {Q':V→Heap→Prop} (h:Ok (FR_0 (n+1) r_ deep_) Q) (hQ:∀z,Q z→Q' (GTerm.v z.1) [(1000,.cells [.str z.2.text_,.bool z.2.wrong_])]):ACall Tryz.prog 58 [.ptr 1000 0,.int .i64 deep_] [(1000,.cells [.str r_.text_,.bool r_.wrong_])] Q':=by
 refine acallM mc_0 [.fzc 4] [1000] [.c 4 (some 5)] Tryz.func58 fun M=>?_
 simp only [FR_0] at h
 unfold mc_0
 replace h:=tY h
 refine tB ?_
 repeat' (first
 | (exact tZ)
 | ((first|refine oblg h ?_|refine roomG h ?_|refine fork h ?_ ?_|refine forkS h ?_ ?_)<;>clear h<;>intro hc h)
 | (obtain ⟨y,hy,h⟩:=h;(first|with_reducible first|have hw:=Wq_5.w hy|have hw:=ih_rule_reader_condition hy|have hw:=Wq_q.w hy|have hw:=Wq_12.w hy|have hw:=Wq_d.w hy|have hw:=Wq_13.w hy);replace hw:=tY hw;(first|refine M.sC hw ?_|refine M.sD hw ?_);clear hw hy;refine tB ?_)
 | (refine M.wh1 (b:=mc_3t) [0,1,4,6] [6,4] (fun x=>[]) (fun x=>[.p 6 0 [.int .i64 x.1],.p 6 4 [.osl 4100 5 0 x.2.1.length],.o 4100 (.arr 5 (x.2.1.map GTerm.v)),.o 1000 (.cells [.str x.2.2.text_,.bool x.2.2.wrong_])]) [.gc [0,1,4,6],.ownC 6 4 4100 5 none] h ?_ ?_<;>first
 | (clear h;intro x Qn K hK1 h;unfold mc_3t;replace h:=tY h;refine tB ?_)
  |(clear h;(try refine tB ?_);exact tU0;done))
 | (refine M.jn1 (b:=mc_3u) [0,1,4,6] [6,39,4,1000] (fun y=>[]) (fun y=>[.p 6 0 [.int .i64 y]]) [] h ?_ ?_<;>first
 | (clear h;intro Qn K hK2 h;replace h:=tY h;refine tB ?_)
  |(clear h;intro y h;unfold mc_3u;replace h:=tY h;refine tB ?_))
 | (refine M.gv1 (ms:=mg_3s) 15 [13,14] h ?_ ?_<;>first
 | (clear h;intro K hK3;unfold mg_3s;refine tB ?_)
 | (clear h;intro b h;replace h:=tY h;refine tB ?_))
 | ((first|refine hK1 _ ?_|refine hK2 _ ?_);(try refine tB ?_);refine ⟨_,h,?_⟩;exact tU0;done)
 | (refine hK3 _ ?_;exact tU;done)
 | (refine bfork (fun hc=>?_) (fun hc=>?_))
 | (refine tE ?_;(first|rw [M.lok_compU]|rw [M.lokD_compU]);refine tB ?_)
 | (refine tA ?_)
 | fail)
theorem WG_0:∀n,(∀{r_:Greader} {deep_:Int} {y:GTerm×Greader},FR_0 n r_ deep_=some y→ACall Tryz.prog 58 [.ptr 1000 0,.int .i64 deep_] [(1000,.cells [.str r_.text_,.bool r_.wrong_])] (fun r H=>r=GTerm.v y.1∧H=[(1000,.cells [.str y.2.text_,.bool y.2.wrong_])]))
 | 0=>fun hy=>(by simp only [FR_0] at hy;cases hy)
 | n+1=>by
  have ih_rule_reader_condition:=@WG_0 n
  exact fun hy=>Wq_0 ih_rule_reader_condition _ _ (Q:=(·=_)) ⟨_,hy,rfl⟩ fun|_,rfl=>⟨rfl,rfl⟩
theorem W_0:∀{r_:Greader} {deep_:Int} {y:GTerm×Greader},F_0 r_ deep_=some y→ACall Tryz.prog 58 [.ptr 1000 0,.int .i64 deep_] [(1000,.cells [.str r_.text_,.bool r_.wrong_])] (fun r H=>r=GTerm.v y.1∧H=[(1000,.cells [.str y.2.text_,.bool y.2.wrong_])]):=fun hy=>by
 obtain ⟨n,hn⟩:=lim_inv hy
 exact (WG_0 n) hn
noncomputable def F_14 (line_:Str):Option (GRule×Bool) :=
 (F_16 line_ [10]).bind fun y3=>(F_v y3 [58]).bind fun y4=>chk (strl ([58].length+y4.2.1.length)) ((F_k (([58]:Str)++y4.2.1) [58,32,114,101,97,108,32,105,102,32]).bind fun y6=>jn (α:=Bool×Str×GRule) (bif (!y6.2) then chk (strl ([58].length+y4.2.1.length)) ((F_k (([58]:Str)++y4.2.1) [58,32,102,97,108,115,101,32,105,102,32]).bind fun y11=>some (y11.2,y11.1,(GRule.mk y4.1 (GTerm.mk 0 [] 0 0 []) 2))) else some (y4.2.2,y6.1,(GRule.mk y4.1 (GTerm.mk 0 [] 0 0 []) 1))) fun j9=>(F_0 (Greader.mk j9.2.1 false) 1).bind fun y13=>bif j9.1 then bif (!y13.2.wrong_) then some ((GRule.mk j9.2.2.Name y13.1 j9.2.2.Verdict),decide (y13.2.text_=[])) else some ((GRule.mk j9.2.2.Name y13.1 j9.2.2.Verdict),false) else some ((GRule.mk j9.2.2.Name y13.1 j9.2.2.Verdict),false))
@[irreducible] def mc_3v:MC :=
 (sR [oV 8 35,
 mo (.build [(.str []),(.bool false)] [(0,1,(.t 35))]) 36,
 mo (.box (.t 36)) 37,
 oV 37 10]
 (sR [oV 10 38,
 mo (.call (.f 58) [(.t 38),(cI 1)] [37] []) 39,
 oF 1 7 40,
 ⟨.st 5 (.t 40) (.t 39),none,none⟩]
 (.seq (.regD [mo (.ld (some 7) (.t 7)) 41,
 oV 6 42,
 oV 42 43,
 gT 43 44 (.mv (.t 10)),
 gT 43 45 (.nck (.t 44)),
 gT 43 46 (.fad 1 (.t 45)),
 gT 43 47 (.ld none (.t 46)),
 gT 43 48 (.not (.t 47)),
 mo (.pick (.t 43) (.t 48) (.c (.bool false))) 49,
 oV 49 50,
 gT 50 51 (.mv (.t 10)),
 gT 50 52 (.nck (.t 51)),
 gT 50 53 (.fad 0 (.t 52)),
 gT 50 54 (.ld none (.t 53)),
 gT 50 55 (.bin false .eql (.t 54) (.c (.str []))),
 mo (.pick (.t 50) (.t 55) (.c (.bool false))) 56,
 ⟨.st 7 (.t 2) (.t 41),none,none⟩,
 oV 56 3]
 [[],[],[1],[2],[3,2],[4,2],[5,2],[6,2],[2,7],[8,2],[9],[10,9],[11,9],[12,9],[13,9],[9,14],[0,9,0],[15,16,0,1,2,3,4,5,6,7,8,9,10,11,12,13,14,15,16]]
 [[],[],[1],[1,2],[1,2,3],[1,2,3,4],[1,2,3,4,5],[1,2,3,4,5,6],[1,2,3,4,5,6,7],[1,2,3,4,5,6,7,8],[1,2,3,4,5,6,7,8,9],[1,2,3,4,5,6,7,8,9,10],[1,2,3,4,5,6,7,8,9,10,11],[1,2,3,4,5,6,7,8,9,10,11,12],[1,2,3,4,5,6,7,8,9,10,11,12,13],[1,2,3,4,5,6,7,8,9,10,11,12,13,14],[0,1,2,3,4,5,6,7,8,9],[0,1,2,3,4,5,6,7,8,9,10,11,12,13,14,15,16]])
 .ret)))
def mc_14:MC :=
 (sR [mo (.alloc [(.str []),(.int .i64 0),(.str []),(.int .i64 0),(.int .u64 0),(.sl []),(.int .i64 0)]) 2,
 mo (.mv (.c (.bool false))) 3]
 (sR [oV 0 12,
 mo (.call (.f 56) [(.t 12),(.c (.str [10]))] [] []) 13,
 mo (.call (.f 55) [(.t 13),(.c (.str [58]))] [] []) 14,
 oV 14 11,
 mo (.ext 0 (.t 11)) 15,
 mo (.ext 1 (.t 11)) 16,
 mo (.ext 2 (.t 11)) 17,
 oV 15 4,
 oV 16 5,
 oV 17 6]
 (.seq (.note (.gc [2,4,5,6,44,45,46,47,48,51,52,53,54,55]) (.reg [oV 4 18,
 mo (.build [(.str []),(.int .i64 0),(.str []),(.int .i64 0),(.int .u64 0),(.sl []),(.int .i64 0)] [(0,1,(.t 18)),(6,1,(cI 1))]) 19,
 mo (.alloc [(.str []),(.int .i64 0),(.str []),(.int .i64 0),(.int .u64 0),(.sl []),(.int .i64 0)]) 7,
 ⟨.st 7 (.t 7) (.t 19),none,none⟩]))
 (sR [oV 5 21,
 mo (.bin false .add (.c (.str [58])) (.t 21)) 22,
 mo (.call (.f 57) [(.t 22),(.c (.str [58,32,114,101,97,108,32,105,102,32]))] [] []) 23,
 oV 23 20,
 mo (.ext 0 (.t 20)) 24,
 mo (.ext 1 (.t 20)) 25,
 oV 24 8,
 oV 25 9]
 (.cut (sR [oV 9 26,
 mo (.not (.t 26)) 27]
 (.cond (.t 27)
 (.seq (.note (.gc [2,5,7,44,45,46,47,48,51,52,53,54,55]) (.reg [oV 5 29,
 mo (.bin false .add (.c (.str [58])) (.t 29)) 30,
 mo (.call (.f 57) [(.t 30),(.c (.str [58,32,102,97,108,115,101,32,105,102,32]))] [] []) 31,
 oV 31 28,
 mo (.ext 0 (.t 28)) 32,
 mo (.ext 1 (.t 28)) 33,
 oV 32 8,
 oV 33 6]))
 (.reg [oF 6 7 34,
 ⟨.st 1 (.t 34) (cI 2),none,none⟩]))
 .skip))
 mc_3v)))))
theorem Wq_14 {line_:Str}:Cn Tryz.prog 32 [.str line_] [] (F_14 line_) (fun z=>.tup [GRule.v z.1,.bool z.2]) (fun z=>[]):=fun Q Q' h hQ=>by
 refine acallM mc_14 [.fzc 2] [] [.c 2 (some 7),.t 3] Tryz.func32 fun M=>?_
 unfold F_14 at h
 unfold mc_14
 replace h:=tY h
 refine tB ?_
 repeat' (first
 | (exact tZ)
 | ((first|refine oblg h ?_|refine roomG h ?_|refine fork h ?_ ?_|refine forkS h ?_ ?_)<;>clear h<;>intro hc h)
 | (obtain ⟨y,hy,h⟩:=h;(first|(with_reducible first|have hw:=Wq_16.w hy|have hw:=Wq_v.w hy|have hw:=Wq_k.w hy)|have hw:=acall_swe 1000 37 (W_0 hy));replace hw:=tY hw;(first|refine M.sC hw ?_|refine M.sD hw ?_);clear hw hy;refine tB ?_)
 | (refine M.jn1 (b:=mc_3v) [2,7] [2] (fun y=>[(6,.bool y.1),(8,.str y.2.1)]) (fun y=>[.o 7 (.cells [.str y.2.2.Name,.int .i64 y.2.2.When.Op,.str y.2.2.When.Text,.int .i64 y.2.2.When.Number,.int .u64 y.2.2.When.Print,.sl (y.2.2.When.Kids.map GTerm.v),.int .i64 y.2.2.Verdict])]) [] h ?_ ?_<;>first
 | (clear h;intro Qn K hK1 h;replace h:=tY h;refine tB ?_)
  |(clear h;intro y h;unfold mc_3v;replace h:=tY h;refine tB ?_))
 | (refine hK1 _ ?_;(try refine tB ?_);refine ⟨_,h,?_⟩;exact tU0;done)
 | (refine tE ?_;(first|rw [M.lok_compU]|rw [M.lokD_compU]);refine tB ?_)
 | (refine tA ?_)
 | fail)
def FR_6:Nat→GTerm→Option Str
 | 0,_=>none
 | n+1,c_ =>
 jn (α:=Bool) (bif decide (c_.Op=1) then some true else bif decide (c_.Op=2) then some true else some (decide (c_.Op=3))) fun j49=>bif j49 then (F_d c_.Op).bind fun y51=>chk (strl (y51.length+[32,34].length)) (chk (strl ((y51++[32,34]).length+c_.Text.length)) (chk (strl (((y51++[32,34])++c_.Text).length+[34].length)) (some (((y51++[32,34])++c_.Text)++[34])))) else bif decide (c_.Op=7) then (F_d c_.Op).bind fun y54=>chk (strl (y54.length+[32].length)) ((futI c_.Print 10).bind fun y55=>chk (strl ((y54++[32]).length+y55.length)) (some ((y54++[32])++y55))) else bif decide (c_.Op=9) then chk (inb 0 c_.Kids.length) ((FR_6 n (c_.Kids.getD 0 default)).bind fun y57=>chk (strl ([110,111,116,32,40].length+y57.length)) (chk (strl ((([110,111,116,32,40]:Str)++y57).length+[41].length)) (some ((([110,111,116,32,40]:Str)++y57)++[41])))) else jn (α:=Bool) (bif decide (c_.Op=10) then some true else some (decide (c_.Op=11))) fun j58=>bif j58 then (foldL (fun (k88:Int) (a89:GTerm) (x87:List Str)=>((FR_6 n a89).bind fun y93=>chk (room (x87.length+[y93].length) 16) (some (x87++[y93])):Option (List Str))) c_.Kids 0 []).bind fun x94=>(F_d c_.Op).bind fun y97=>chk (strl ([32].length+y97.length)) (chk (strl ((([32]:Str)++y97).length+[32].length)) ((joinI x94 ((([32]:Str)++y97)++[32])).bind fun y98=>chk (strl ([40].length+y98.length)) (chk (strl ((([40]:Str)++y98).length+[41].length)) (some ((([40]:Str)++y98)++[41]))))) else (F_d c_.Op).bind fun y101=>chk (strl (y101.length+[32].length)) ((itoaI c_.Number).bind fun y102=>chk (strl ((y101++[32]).length+y102.length)) (some ((y101++[32])++y102)))
noncomputable def F_6 (c_:GTerm):Option Str:=lim fun n=>FR_6 n c_
@[irreducible] def mc_2w:MC :=
 (sR [mo (.bin false .lss (.t 45) (.t 44)) 46]
 (.seq (.cond (.t 46)
 .skip
 (.exit 1))
 (.seq (.block 2
 (sR [mo (.iad 5 (.t 43) (.t 45)) 47,
 mo (.ld (some 5) (.t 47)) 48,
 mo (.alloc [(.int .i64 0),(.str []),(.int .i64 0),(.int .u64 0),(.sl [])]) 5,
 ⟨.st 5 (.t 5) (.t 48),none,none⟩]
 (.reg [oV 3 49,
 mo (.ld (some 5) (.t 5)) 50,
 mo (.call (.f 63) [(.t 50)] [] []) 51,
 mo (.bslice 1 [(.t 51)]) 52,
 mo (.app 1 16 (.t 49) (.t 52)) 53,
 oV 53 3])))
 (.reg [mo (.bin true .add (.t 45) (cI 1)) 54,
 oV 54 45]))))
@[irreducible] def mc_3w:MC :=
 (.cond (.t 39)
 (sR [mo (.mv (.c .nils)) 3]
 (.seq (sR [oF 4 1 42,
 oL 42 43,
 mo (.len false (.t 43)) 44,
 oC 0 45]
 (.block 1
 (.loop mc_2w)))
 (.seq (.regI [.op (oV 3 55),
 .op (oF 0 1 56),
 .op (oL 56 57),
 .op (mo (.call (.f 93) [(.t 57)] [] []) 58),
 .op (mo (.bin false .add (.c (.str [32])) (.t 58)) 59),
 .op (mo (.bin false .add (.t 59) (.c (.str [32]))) 60),
 .nt (.fz 55),
 .op (mo (.call (.f 98) [(.t 55),(.t 60)] [] []) 61),
 .op (mo (.bin false .add (.c (.str [40])) (.t 61)) 62),
 .op (mo (.bin false .add (.t 62) (.c (.str [41]))) 63),
 .op (oV 63 2)])
 .ret)))
 .skip)
@[irreducible] def mc_3x:MC :=
 (.cond (.t 8)
 (.seq (.regD [oF 0 1 12,
 oL 12 13,
 mo (.call (.f 93) [(.t 13)] [] []) 14,
 mo (.bin false .add (.t 14) (.c (.str [32,34]))) 15,
 oF 1 1 16,
 oL 16 17,
 mo (.bin false .add (.t 15) (.t 17)) 18,
 mo (.bin false .add (.t 18) (.c (.str [34]))) 19,
 oV 19 2]
 [[],[0],[1],[2],[],[4],[3,5],[6],[7,2,0,1,2,3,4,5,6,7]]
 [[],[0],[0,1],[0,1,2],[],[4],[0,1,2,3,4,5],[0,1,2,3,4,5,6],[0,1,2,3,4,5,6,7]])
 .ret)
 (sR [mo (.bin false .eql (.t 7) (cI 7)) 21,
 oV 21 20]
 (.cond (.t 20)
 (.seq (.regD [oF 0 1 22,
 oL 22 23,
 mo (.call (.f 93) [(.t 23)] [] []) 24,
 mo (.bin false .add (.t 24) (.c (.str [32]))) 25,
 oF 3 1 26,
 oL 26 27,
 mo (.call (.f 97) [(.t 27),(cI 10)] [] []) 28,
 mo (.bin false .add (.t 25) (.t 28)) 29,
 oV 29 2]
 [[],[0],[1],[2],[],[4],[5,2],[3,6],[7,6,0,1,2,3,4,5,6,7]]
 [[],[0],[0,1],[0,1,2],[],[4],[0,1,2,4,5],[0,1,2,3,4,5,6],[0,1,2,3,4,5,6,7]])
 .ret)
 (sR [mo (.bin false .eql (.t 7) (cI 9)) 31,
 oV 31 30]
 (.cond (.t 30)
 (sR [oF 4 1 32,
 oL 32 33,
 mo (.iad 5 (.t 33) (cI 0)) 34,
 mo (.ld (some 5) (.t 34)) 35,
 mo (.call (.f 63) [(.t 35)] [] []) 36,
 mo (.bin false .add (.c (.str [110,111,116,32,40])) (.t 36)) 37,
 mo (.bin false .add (.t 37) (.c (.str [41]))) 38,
 oV 38 2]
 .ret)
 (.cut (sR [mo (.bin false .eql (.t 7) (cI 10)) 40,
 oV 40 39]
 (.cond (.t 39)
 .skip
 (.reg [mo (.bin false .eql (.t 7) (cI 11)) 41,
 oV 41 39])))
 mc_3w))))))
def mc_6:MC :=
 (sR [mo (.box (.t 0)) 1,
 mo (.mv (.c (.str []))) 2]
 (.seq (sR [oF 0 1 6,
 oL 6 7]
 (.block 0
 (.cut (sR [mo (.bin false .eql (.t 7) (cI 1)) 9,
 oV 9 8]
 (.cond (.t 8)
 .skip
 (sR [mo (.bin false .eql (.t 7) (cI 2)) 10,
 oV 10 8]
 (.cond (.t 8)
 .skip
 (.reg [mo (.bin false .eql (.t 7) (cI 3)) 11,
 oV 11 8])))))
 mc_3x)))
 (.seq (.regD [oF 0 1 64,
 oL 64 65,
 mo (.call (.f 93) [(.t 65)] [] []) 66,
 mo (.bin false .add (.t 66) (.c (.str [32]))) 67,
 oF 2 1 68,
 oL 68 69,
 mo (.call (.f 99) [(.t 69)] [] []) 70,
 mo (.bin false .add (.t 67) (.t 70)) 71,
 oV 71 2]
 [[],[0],[1],[2],[],[4],[5,2],[3,6],[7,6,0,1,2,3,4,5,6,7]]
 [[],[0],[0,1],[0,1,2],[],[4],[0,1,2,4,5],[0,1,2,3,4,5,6],[0,1,2,3,4,5,6,7]])
 .ret)))
theorem Wq_6 {n:Nat} (ih_rule_write:∀{c_:GTerm} {y:Str},FR_6 n c_=some y→ACall Tryz.prog 63 [GTerm.v c_] [] (fun r H=>r=.str y∧H=[])) (c_:GTerm) {Q:Str→Prop} {Q':V→Heap→Prop} (h:Ok (FR_6 (n+1) c_) Q) (hQ:∀z,Q z→Q' (.str z) []):ACall Tryz.prog 63 [GTerm.v c_] [] Q':=by
 refine acallM mc_6 [] [] [.t 2] Tryz.func63 fun M=>?_
 simp only [FR_6] at h
 unfold mc_6
 replace h:=tY h
 refine tB ?_
 repeat' (first
 | (exact tZ)
 | ((first|refine oblg h ?_|refine roomG h ?_|refine fork h ?_ ?_|refine forkS h ?_ ?_)<;>clear h<;>intro hc h)
 | (obtain ⟨y,hy,h⟩:=h;(first|with_reducible first|have hw:=Wq_d.w hy|have hw:=W_5z hy|have hw:=ih_rule_write hy|have hw:=W_60 hy|have hw:=W_62 hy);replace hw:=tY hw;(first|refine M.sC hw ?_|refine M.sD hw ?_);clear hw hy;refine tB ?_)
 | (refine M.fold1 (b:=mc_2w) 45 [1,43,44] [1] (fun x=>[(3,.osl 2003 1 0 x.length)]) (fun x=>[.o 2003 (.arr 1 (x.map V.str))]) [.gc [1,3,43,44,45],.acc 3 2003 1] h ?_ ?_ ?_<;>first
 | (clear h;intro k a x Qn K hK1 hkN1 ha1 h hf;have hl:=fact_int (factsE_find (n:=44) hf.1 rfl);clear hf;have hkd:=kD hkN1;have hkB1:=kB hkN1;have hkI1:=kI (k:=k) (by omega);unfold mc_2w;replace h:=tY h;refine tK ha1 hkd hkN1 hkB1 hkI1 ?_)
  |(clear h;intro x K h;replace h:=And.left (And.intro h trivial);unfold mc_2w;replace h:=tY h;refine tB ?_)
  |(clear h;(try refine tB ?_);exact tU0;done))
 | (refine M.jn1 (b:=mc_3w) [1] [1] (fun y=>[(39,.bool y)]) (fun y=>[]) [] h ?_ ?_<;>first
 | (clear h;intro Qn K hK2 h;replace h:=tY h;refine tB ?_)
  |(clear h;intro y h;unfold mc_3w;replace h:=tY h;refine tB ?_))
 | (refine M.jn1 (b:=mc_3x) [1,7] [1] (fun y=>[(8,.bool y)]) (fun y=>[]) [] h ?_ ?_<;>first
 | (clear h;intro Qn K hK3 h;replace h:=tY h;refine tB ?_)
  |(clear h;intro y h;unfold mc_3x;replace h:=tY h;refine tB ?_))
 | (simp only [ha1])
 | ((first|refine hK1 _ ?_|refine hK2 _ ?_|refine hK3 _ ?_);(try refine tB ?_);refine ⟨_,h,?_⟩;exact tU0;done)
 | (refine tE ?_;(first|rw [M.lok_compU]|rw [M.lokD_compU]);refine tB ?_)
 | (refine tA ?_)
 | fail)
theorem WG_6:∀n,(∀{c_:GTerm} {y:Str},FR_6 n c_=some y→ACall Tryz.prog 63 [GTerm.v c_] [] (fun r H=>r=.str y∧H=[]))
 | 0=>fun hy=>(by simp only [FR_6] at hy;cases hy)
 | n+1=>by
  have ih_rule_write:=@WG_6 n
  exact fun hy=>Wq_6 ih_rule_write _ (Q:=(·=_)) ⟨_,hy,rfl⟩ fun|_,rfl=>⟨rfl,rfl⟩
theorem W_6:∀{c_:GTerm} {y:Str},F_6 c_=some y→ACall Tryz.prog 63 [GTerm.v c_] [] (fun r H=>r=.str y∧H=[]):=fun hy=>by
 obtain ⟨n,hn⟩:=lim_inv hy
 exact (WG_6 n) hn
noncomputable def F_1u (k58:Int) (a59:GRule) (x57:List UInt8):Option (List UInt8) :=
 jn (α:=Str) (bif decide (a59.Verdict=2) then some [58,32,102,97,108,115,101,32,105,102,32] else some [58,32,114,101,97,108,32,105,102,32]) fun j69=>chk (strl (a59.Name.length+j69.length)) ((F_6 a59.When).bind fun y70=>chk (strl ((a59.Name++j69).length+y70.length)) (chk (strl (((a59.Name++j69)++y70).length+[10].length)) ((bws x57 (((a59.Name++j69)++y70)++[10])).bind fun y71=>some y71)))
noncomputable def F_1e (l_:List GRule):Option Str :=
 (foldL F_1u l_ 0 ([]:Str)).bind fun x72=>(bstr x72).bind fun y74=>some y74
@[irreducible] def mc_3y:MC :=
 (.regD [oF 0 5 16,
 oL 16 17,
 oV 6 18,
 mo (.bin false .add (.t 17) (.t 18)) 19,
 oF 1 5 20,
 mo (.ld (some 5) (.t 20)) 21,
 mo (.call (.f 63) [(.t 21)] [] []) 22,
 mo (.bin false .add (.t 19) (.t 22)) 23,
 mo (.bin false .add (.t 23) (.c (.str [10]))) 24,
 mo (.call (.f 62) [(.t 3),(.t 24)] [3,4049] [9601]) 25]
 [[],[0],[],[1,2],[],[4],[5],[3,6],[7],[8,6]]
 [[],[0],[],[0,1,2],[],[4],[4,5],[0,1,2,3,4,5,6],[0,1,2,3,4,5,6,7],[0,1,2,3,4,5,6,7,8]])
@[irreducible] def mc_1u:MC :=
 (sR [mo (.bin false .lss (.t 9) (.t 8)) 10]
 (.seq (.cond (.t 10)
 .skip
 (.exit 0))
 (.seq (.block 1
 (sR [mo (.iad 7 (.t 7) (.t 9)) 11,
 mo (.ld (some 7) (.t 11)) 12,
 mo (.alloc [(.str []),(.int .i64 0),(.str []),(.int .i64 0),(.int .u64 0),(.sl []),(.int .i64 0)]) 5,
 ⟨.st 7 (.t 5) (.t 12),none,none⟩]
 (sR [mo (.mv (.c (.str [58,32,114,101,97,108,32,105,102,32]))) 6]
 (.cut (sR [oF 6 5 13,
 oL 13 14,
 mo (.bin false .eql (.t 14) (cI 2)) 15]
 (.cond (.t 15)
 (.reg [mo (.mv (.c (.str [58,32,102,97,108,115,101,32,105,102,32]))) 6])
 .skip))
 mc_3y))))
 (.reg [mo (.bin true .add (.t 9) (cI 1)) 26,
 oV 26 9]))))
def mc_1e:MC :=
 (sR [mo (.mv (.c (.str []))) 2]
 (.seq (.regI [.op (mo (.alloc [.nilp,.nils] (some 116)) 3),
 .nt (.bld 3),
 .nt (.ownC 3 1 5003 1 (some 5))])
 (.seq (sR [oV 0 7,
 mo (.len false (.t 7)) 8,
 oC 0 9]
 (.block 0
 (.loop mc_1u)))
 (sR [mo (.call (.f 64) [(.t 3)] [3,4049] []) 27,
 oV 27 2]
 .ret))))
theorem Wq_1e {l_:List GRule}:Cn Tryz.prog 34 [.sl (l_.map GRule.v)] [] (F_1e l_) (fun z=>.str z) (fun z=>[]):=fun Q Q' h hQ=>by
 refine acallM mc_1e [] [] [.t 2] Tryz.func34 fun M=>?_
 unfold F_1e at h
 unfold mc_1e
 replace h:=tY h
 refine tB ?_
 repeat' (first
 | (exact tZ)
 | ((first|refine oblg h ?_|refine roomG h ?_|refine fork h ?_ ?_|refine forkS h ?_ ?_)<;>clear h<;>intro hc h)
 | (obtain ⟨y,hy,h⟩:=h;have hw:=acall_swe 1002 9601 (acall_swe 1001 5003 (acall_swe 1000 3 (W_5w hy)));replace hw:=tY hw;(first|refine M.sC hw ?_|refine M.sD hw ?_);clear hw hy;refine tB ?_)
 | (obtain ⟨y,hy,h⟩:=h;have hw:=acall_swe 1002 9601 (acall_swe 1001 4049 (acall_swe 1000 3 (W_5w hy)));replace hw:=tY hw;(first|refine M.sC hw ?_|refine M.sD hw ?_);clear hw hy;refine tB ?_)
 | (obtain ⟨y,hy,h⟩:=h;(first|(with_reducible first|have hw:=W_6 hy)|have hw:=acall_swe 1001 4049 (acall_swe 1000 3 (W_64 hy)));replace hw:=tY hw;(first|refine M.sC hw ?_|refine M.sD hw ?_);clear hw hy;refine tB ?_)
 | (refine M.jn1 (b:=mc_3y) [3,5,7,8,9] [5,3,4049] (fun y=>[(6,.str y)]) (fun y=>[]) [] h ?_ ?_<;>first
 | (clear h;intro Qn K hK1 h;replace h:=tY h;refine tB ?_)
  |(clear h;intro y h;unfold mc_3y;replace h:=tY h;refine tB ?_))
 | (refine M.fold1 (b:=mc_1u) 9 [3,7,8] [3] (fun x=>[]) (fun x=>[.p 3 1 [.osl 4049 1 0 x.length],.o 4049 (.arr 1 (x.map byteV) (some 5))]) [.gc [3,7,8,9],.ownC 3 1 4049 1 none] h ?_ ?_ ?_<;>first
 | (clear h;intro k a x Qn K hK2 hkN2 ha2 h hf;have hl:=fact_int (factsE_find (n:=8) hf.1 rfl);clear hf;have hkd:=kD hkN2;have hkB2:=kB hkN2;have hkI2:=kI (k:=k) (by omega);unfold F_1u at h;unfold mc_1u;replace h:=tY h;refine tK ha2 hkd hkN2 hkB2 hkI2 ?_)
  |(clear h;intro x K h;replace h:=And.left (And.intro h trivial);unfold mc_1u;replace h:=tY h;refine tB ?_)
  |(clear h;(try refine tB ?_);exact tU0;done))
 | (simp only [ha2])
 | ((first|refine hK1 _ ?_|refine hK2 _ ?_);(try refine tB ?_);refine ⟨_,h,?_⟩;exact tU0;done)
 | (refine tE ?_;(first|rw [M.lok_compU]|rw [M.lokD_compU]);refine tB ?_)
 | (refine tA ?_)
 | fail)
noncomputable def F_2e (k40:Int) (a33:Str) (x32:List GRule):Option (Fl (List GRule) ((List GRule)×Int)) :=
 (F_14 a33).bind fun y42=>grp (((!y42.2)||decide ((x32.length:Int)=40))) fun b46=>bif b46 then some (.ex ([],4)) else chk (room (x32.length+[y42.1].length) 88) (some (.nx (x32++[y42.1])))
noncomputable def F_r (s_:Str):Option ((List GRule)×Int) :=
 bif decide (65536<(s_.length:Int)) then some ([],3) else (linF s_).bind fun y23=>(forL F_2e (linesL s_) 0 []).bind fun o=>o.elim (fun x47=>(F_x x47).bind fun y55=>bif (!decide (y55=0)) then some ([],4) else (F_1e x47).bind fun y56=>bif (!decide (y56=s_)) then some ([],4) else some (x47,0)) (fun r48=>some r48)
@[irreducible] def mg_3z:List MOp:=[gF 21 22 (.ld none (.t 4)),
 gF 21 23 (.len false (.t 22)),
 gF 21 24 (.bin false .eql (.t 23) (cI 40)),
 mo (.pick (.t 21) (.c (.bool true)) (.t 24)) 25]
@[irreducible] def mc_40:MC :=
 (.block 1
 (sR [oV 5 15,
 mo (.call (.f 32) [(.t 15)] [] []) 16,
 oV 16 14,
 mo (.ext 0 (.t 14)) 17,
 mo (.ext 1 (.t 14)) 18,
 mo (.alloc [(.str []),(.int .i64 0),(.str []),(.int .i64 0),(.int .u64 0),(.sl []),(.int .i64 0)]) 6,
 ⟨.st 7 (.t 6) (.t 17),none,none⟩,
 oV 18 7]
 (.seq (.seq (.note (.gc [2,3,4,6,7,22,23,24]) (.regI [.op (oV 7 19),
 .op (mo (.not (.t 19)) 20),
 .op (oV 20 21),
 .grp mg_3z]))
 (.cond (.t 25)
 (sR [⟨.st 1 (.t 2) (.c (.sl [])),none,none⟩,
 ⟨.st 1 (.t 3) (cI 4),none,none⟩]
 .ret)
 .skip))
 (.reg [oL 4 26,
 mo (.ld (some 7) (.t 6)) 27,
 mo (.bslice 7 [(.t 27)]) 28,
 mo (.app 7 88 (.t 26) (.t 28)) 29,
 ⟨.st 1 (.t 4) (.t 29),none,none⟩]))))
def mc_r:MC :=
 (sR [mo (.alloc [(.sl [])]) 2,
 mo (.alloc [(.int .i64 0)]) 3]
 (.seq (sR [oV 0 8,
 mo (.len true (.t 8)) 9,
 mo (.bin false .gtr (.t 9) (cI 65536)) 10]
 (.cond (.t 10)
 (sR [⟨.st 1 (.t 2) (.c (.sl [])),none,none⟩,
 ⟨.st 1 (.t 3) (cI 3),none,none⟩]
 .ret)
 .skip))
 (sR [mo (.alloc [.nils]) 4]
 (.seq (sR [oV 0 11,
 mo (.call (.f 31) [(.t 11)] [] [12]) 12]
 (.block 0
 (.note (.ownC 4 0 4064 7 none) (.rngF (.t 12) [13] (.reg [oV 13 5]) mc_40))))
 (.seq (.seq (.regI [.op (oL 4 30),
 .nt (.fz 30),
 .op (mo (.call (.f 33) [(.t 30)] [] []) 31),
 .op (mo (.bin false .neq (.t 31) (cI 0)) 32),
 .op (oV 32 33),
 .op (gF 33 34 (.ld none (.t 4))),
 .op (gF 33 35 (.call (.f 34) [(.t 34)] [] [])),
 .op (gF 33 36 (.mv (.t 0))),
 .op (gF 33 37 (.bin false .neq (.t 35) (.t 36))),
 .op (mo (.pick (.t 33) (.c (.bool true)) (.t 37)) 38)])
 (.cond (.t 38)
 (sR [⟨.st 1 (.t 2) (.c (.sl [])),none,none⟩,
 ⟨.st 1 (.t 3) (cI 4),none,none⟩]
 .ret)
 .skip))
 (.seq (.note (.gc [2,3,4]) (.reg [oL 4 39,
 ⟨.st 1 (.t 2) (.t 39),none,none⟩,
 ⟨.st 1 (.t 3) (cI 0),none,none⟩]))
 .ret))))))
theorem Wq_r {s_:Str}:Cn Tryz.prog 12 [.str s_] [] (F_r s_) (fun z=>.tup [.sl (z.1.map GRule.v),.int .i64 z.2]) (fun z=>[]):=fun Q Q' h hQ=>by
 refine acallM mc_r [.fzc 2] [] [.c 2 none,.c 3 none] Tryz.func12 fun M=>?_
 unfold F_r at h
 unfold mc_r
 replace h:=tY h
 refine tB ?_
 repeat' (first
 | (exact tZ)
 | ((first|refine oblg h ?_|refine roomG h ?_|refine fork h ?_ ?_|refine forkS h ?_ ?_)<;>clear h<;>intro hc h)
 | (obtain ⟨y,hy,h⟩:=h;(first|(with_reducible first|have hw:=Wq_14.w hy|have hw:=Wq_x.w hy|have hw:=Wq_1e.w hy)|have hw:=acall_swe 1900 12 (W_68 hy));replace hw:=tY hw;(first|refine M.sC hw ?_|refine M.sD hw ?_);clear hw hy;refine tB ?_)
 | (refine M.gv1 (ms:=mg_3z) 25 [22,23,24] h ?_ ?_<;>first
 | (clear h;intro K hK1;unfold mg_3z;refine tB ?_)
 | (clear h;intro b h;replace h:=tY h;refine tB ?_))
 | (refine M.rforC (b:=mc_40) (enc:=fun a=>[.str a]) _ [2,3,4,12] [3,2] (fun x=>[.o 4 (.cells [.osl 4064 7 0 x.length]),.o 4064 (.arr 7 (x.map GRule.v))]) [.gc [0,2,3,4,8,9,10,11,12],.ownC 4 0 4064 7 none] h rfl (W_66 _ _) ⟨rfl,trivial,rfl,trivial⟩ rfl (fun a=>⟨rfl,rfl⟩) ?_ (hdis1 rfl) ?_ rfl ?_<;>first
 | (clear h;intro k a x Qn K hK2 hkN2 h hf;clear hf;unfold F_2e at h;unfold mc_40;replace h:=tY h;refine tB ?_)
  |(clear h;intro x h;replace h:=tY h;refine tB ?_)
  |(clear h;(try refine tB ?_);exact tU0;done))
 | (refine hK1 _ ?_;exact tU;done)
 | (refine hK2 _ ?_;(try refine tB ?_);refine ⟨_,h,?_⟩;exact tU0;done)
 | (refine bfork (fun hc=>?_) (fun hc=>?_))
 | (refine tE ?_;(first|rw [M.lok_compU]|rw [M.lokD_compU]);refine tB ?_)
 | (refine tA ?_)
 | fail)
noncomputable def F_1n:Option Bool :=
 (F_r [100,111,99,115,58,32,102,97,108,115,101,32,105,102,32,112,97,116,104,32,34,100,111,99,115,47,34,10]).bind fun y2=>(F_1s y2.1 [] (GFinding.mk 0 0 [(GSpot.mk (GPlace.mk 0 [100,111,99,115,47,120] 0) [] 0 0)]) 0).bind fun y4=>grp ((decide (y2.2=0)&&decide ((y2.1.length:Int)=1))) fun b8=>grp ((b8&&decide (y4.1=2))) fun b9=>grp ((b9&&decide (y4.2=0))) fun b10=>some b10
@[irreducible] def mg_41:List MOp:=[gT 20 21 (.mv (.t 1)),
 gT 20 22 (.len false (.t 21)),
 gT 20 23 (.bin false .eql (.t 22) (cI 1)),
 mo (.pick (.t 20) (.t 23) (.c (.bool false))) 24]
@[irreducible] def mg_42:List MOp:=[gT 25 26 (.mv (.t 3)),
 gT 25 27 (.bin false .eql (.t 26) (cI 2)),
 mo (.pick (.t 25) (.t 27) (.c (.bool false))) 28]
@[irreducible] def mg_43:List MOp:=[gT 29 30 (.mv (.t 4)),
 gT 29 31 (.bin false .eql (.t 30) (cI 0)),
 mo (.pick (.t 29) (.t 31) (.c (.bool false))) 32]
def mc_1n:MC :=
 (sR [mo (.mv (.c (.bool false))) 0]
 (sR [mo (.call (.f 12) [(.c (.str [100,111,99,115,58,32,102,97,108,115,101,32,105,102,32,112,97,116,104,32,34,100,111,99,115,47,34,10]))] [] []) 6,
 oV 6 5,
 mo (.ext 0 (.t 5)) 7,
 mo (.ext 1 (.t 5)) 8,
 oV 7 1,
 oV 8 2]
 (sR [oV 1 10,
 mo (.build [(.int .i64 0),(.str []),(.int .i64 0)] [(1,1,(.c (.str [100,111,99,115,47,120])))]) 11,
 mo (.build [(.int .i64 0),(.str []),(.int .i64 0),(.sl []),(.int .i64 0),(.int .i64 0)] [(0,3,(.t 11))]) 12,
 mo (.lsl 6 [(.t 12)]) 13,
 mo (.build [(.int .i64 0),(.int .u64 0),(.sl [])] [(2,1,(.t 13))]) 14,
 mo (.call (.f 19) [(.t 10),(.c (.sl [])),(.t 14),(cI 0)] [] []) 15,
 oV 15 9,
 mo (.ext 0 (.t 9)) 16,
 mo (.ext 1 (.t 9)) 17,
 oV 16 3,
 oV 17 4]
 (.seq (.note (.gc [1,2,3,4,21,22,23,26,27,30,31]) (.regI [.op (oV 2 18),
 .op (mo (.bin false .eql (.t 18) (cI 0)) 19),
 .op (oV 19 20),
 .grp mg_41,
 .op (oV 24 25),
 .grp mg_42,
 .op (oV 28 29),
 .grp mg_43,
 .op (oV 32 0)]))
 .ret))))
theorem Wq_1n:Cn Tryz.prog 15 [] [] F_1n (fun z=>.bool z) (fun z=>[]):=fun Q Q' h hQ=>by
 refine acallM mc_1n [] [] [.t 0] Tryz.func15 fun M=>?_
 unfold F_1n at h
 unfold mc_1n
 replace h:=tY h
 refine tB ?_
 repeat' (first
 | (exact tZ)
 | ((first|refine oblg h ?_|refine roomG h ?_|refine fork h ?_ ?_|refine forkS h ?_ ?_)<;>clear h<;>intro hc h)
 | (obtain ⟨y,hy,h⟩:=h;(first|with_reducible first|have hw:=Wq_r.w hy|have hw:=Wq_1s.w hy);replace hw:=tY hw;(first|refine M.sC hw ?_|refine M.sD hw ?_);clear hw hy;refine tB ?_)
 | (refine M.gv1 (ms:=mg_43) 32 [30,31] h ?_ ?_<;>first
 | (clear h;intro K hK1;unfold mg_43;refine tB ?_)
 | (clear h;intro b h;replace h:=tY h;refine tB ?_))
 | (refine M.gv1 (ms:=mg_42) 28 [26,27] h ?_ ?_<;>first
 | (clear h;intro K hK2;unfold mg_42;refine tB ?_)
 | (clear h;intro b h;replace h:=tY h;refine tB ?_))
 | (refine M.gv1 (ms:=mg_41) 24 [21,22,23] h ?_ ?_<;>first
 | (clear h;intro K hK3;unfold mg_41;refine tB ?_)
 | (clear h;intro b h;replace h:=tY h;refine tB ?_))
 | ((first|refine hK1 _ ?_|refine hK2 _ ?_|refine hK3 _ ?_);exact tU;done)
 | (refine bfork (fun hc=>?_) (fun hc=>?_))
 | (refine tE ?_;(first|rw [M.lok_compU]|rw [M.lokD_compU]);refine tB ?_)
 | (refine tA ?_)
 | fail)
end Go.Ab
