/- What the functions of this seat that lie on the laws' road compute (part LC), each for every input. By AI agents. -/
import Derived.Test.YtoojdaakeiadjaaGreatDoorProg
import Derived.KernelRfl
import Derived.Test.YtoojdaakeiadjaaGreatDoorAbFun
import Derived.Test.YtoojdaakeiadjaaGreatDoorLB
set_option linter.all false
set_option linter.all false
set_option maxRecDepth 20000
set_option maxHeartbeats 2000000
namespace Go.Ab
open Go.Proofs
structure GTape where
 L:List Int
 at_:Int
instance:Inhabited GTape:=⟨⟨default,default⟩⟩
def GTape.v (x:GTape):V:=.agg [.sl (x.L.map (V.int .i64)),.int .i64 x.at_]
attribute [go_sem] GTape.v
def FR_4:Nat→Int→Option Str
 | 0,_=>none
 | n+1,n_ =>
 bif decide (n_<10) then some [(u8 (48+((u8 n_).toNat:Int)))] else chk (divs n_ 10) ((FR_4 n (n_ / 10)).bind fun y2=>chk (divs n_ 10) (chk (strl (y2.length+[(u8 (48+((u8 (n_ % 10)).toNat:Int)))].length)) (some (y2++[(u8 (48+((u8 (n_ % 10)).toNat:Int)))]))))
noncomputable def F_4 (n_:Int):Option Str:=lim fun n=>FR_4 n n_
def mc_4:MC :=
 (sR [mo (.mv (.c (.str []))) 2]
 (.seq (sR [oV 0 3,
 mo (.bin false .lss (.t 3) (cI 10)) 4]
 (.cond (.t 4)
 (sR [oV 0 5,
 mo (.i2i false .u8 (.t 5)) 6,
 mo (.bin false .add (.c (.int .u8 48)) (.t 6)) 7,
 mo (.bslice 1 [(.t 7)]) 8,
 mo (.b2s (.t 8)) 9,
 oV 9 2]
 .ret)
 .skip))
 (.seq (.regD [oV 0 10,
 mo (.bin true .quo (.t 10) (cI 10)) 11,
 mo (.call (.f 30) [(.t 11)] [] []) 12,
 oV 0 13,
 mo (.bin true .rem (.t 13) (cI 10)) 14,
 mo (.i2i false .u8 (.t 14)) 15,
 mo (.bin false .add (.c (.int .u8 48)) (.t 15)) 16,
 mo (.bslice 1 [(.t 16)]) 17,
 mo (.b2s (.t 17)) 18,
 mo (.bin false .add (.t 12) (.t 18)) 19,
 oV 19 2]
 [[],[0],[1],[],[3],[4],[5],[6],[7],[2,8],[9,2,0,1,2,3,4,5,6,7,8,9]]
 [[],[0],[0,1],[],[3],[3,4],[3,4,5],[3,4,5,6],[3,4,5,6,7],[0,1,2,3,4,5,6,7,8],[0,1,2,3,4,5,6,7,8,9]])
 .ret)))
theorem Wq_4 {n:Nat} (ih_ref07_Number:∀{n_:Int} {y:Str},FR_4 n n_=some y→ACall Tryz.prog 30 [.int .i64 n_] [] (fun r H=>r=.str y∧H=[])) (n_:Int) {Q:Str→Prop} {Q':V→Heap→Prop} (h:Ok (FR_4 (n+1) n_) Q) (hQ:∀z,Q z→Q' (.str z) []):ACall Tryz.prog 30 [.int .i64 n_] [] Q':=by
 refine acallM mc_4 [] [] [.t 2] Tryz.func30 fun M=>?_
 simp only [FR_4] at h
 unfold mc_4
 replace h:=tY h
 refine tB ?_
 repeat' (first
 | (exact tZ)
 | ((first|refine oblg h ?_|refine roomG h ?_|refine divG h ?_|refine fork h ?_ ?_|refine forkS h ?_ ?_)<;>clear h<;>intro hc h)
 | (obtain ⟨y,hy,h⟩:=h;have hw:=ih_ref07_Number hy;replace hw:=tY hw;(first|refine M.sC hw ?_|refine M.sD hw ?_);clear hw hy;refine tB ?_)
 | (refine tE ?_;(first|rw [M.lok_compU]|rw [M.lokD_compU]);refine tB ?_)
 | (refine tA ?_)
 | fail)
theorem WG_4:∀n,(∀{n_:Int} {y:Str},FR_4 n n_=some y→ACall Tryz.prog 30 [.int .i64 n_] [] (fun r H=>r=.str y∧H=[]))
 | 0=>fun hy=>(by simp only [FR_4] at hy;cases hy)
 | n+1=>by
  have ih_ref07_Number:=@WG_4 n
  exact fun hy=>Wq_4 ih_ref07_Number _ (Q:=(·=_)) ⟨_,hy,rfl⟩ fun|_,rfl=>⟨rfl,rfl⟩
theorem W_4:∀{n_:Int} {y:Str},F_4 n_=some y→ACall Tryz.prog 30 [.int .i64 n_] [] (fun r H=>r=.str y∧H=[]):=fun hy=>by
 obtain ⟨n,hn⟩:=lim_inv hy
 exact (WG_4 n) hn
def F_1 (t_:GTape) (n_:Int):Option (Int×GTape) :=
 bif decide ((t_.L.length:Int)≤t_.at_) then some (0,t_) else chk (inb t_.at_ t_.L.length) (chk (in64 (t_.at_+1)) (chk (divs ((t_.L.getD (t_.at_).toNat default) % 2^16) n_) (some ((((t_.L.getD (t_.at_).toNat default) % 2^16) % n_),(GTape.mk t_.L (t_.at_+1))))))
def mc_1:MC :=
 (sR [oC 0 4]
 (.seq (.seq (.regD [oV 0 6,
 mo (.nck (.t 6)) 7,
 oF 1 7 8,
 oL 8 9,
 oV 0 10,
 mo (.nck (.t 10)) 11,
 oF 0 11 12,
 oL 12 13,
 mo (.len false (.t 13)) 14,
 mo (.bin false .geq (.t 9) (.t 14)) 15]
 [[],[0],[1],[2],[],[4],[5],[6],[7],[3,8]]
 [[],[0],[0,1],[0,1,2],[],[4],[4,5],[4,5,6],[4,5,6,7],[0,1,2,3,4,5,6,7,8]])
 (.cond (.t 15)
 (sR [oC 0 4]
 .ret)
 .skip))
 (.seq (.note (.gc [0,1]) (.regD [oV 0 16,
 mo (.nck (.t 16)) 17,
 oF 0 17 18,
 oL 18 19,
 oV 0 20,
 mo (.nck (.t 20)) 21,
 oF 1 21 22,
 oL 22 23,
 mo (.iad 1 (.t 19) (.t 23)) 24,
 oL 24 25,
 mo (.mask 16 (.t 25) .i64) 26,
 oV 26 5]
 [[],[0],[1],[2],[],[4],[5],[6],[3,7],[8],[9],[10,0,1,2,3,4,5,6,7,8,9,10]]
 [[],[0],[0,1],[0,1,2],[],[4],[4,5],[4,5,6],[0,1,2,3,4,5,6,7],[0,1,2,3,4,5,6,7,8],[0,1,2,3,4,5,6,7,8,9],[0,1,2,3,4,5,6,7,8,9,10]]))
 (.seq (.note (.gc [0,1,5]) (.reg [oV 0 27,
 mo (.nck (.t 27)) 28,
 oF 1 28 29,
 oL 29 30,
 mo (.bin true .add (.t 30) (cI 1)) 31,
 mo (.nck (.t 27)) 32,
 oF 1 32 33,
 ⟨.st 1 (.t 33) (.t 31),none,none⟩]))
 (.seq (.note (.gc [1,5]) (.reg [oV 5 34,
 oV 1 35,
 mo (.bin true .rem (.t 34) (.t 35)) 36,
 oV 36 4]))
 .ret)))))
theorem Wq_1 {t_:GTape} {n_:Int}:Cn Tryz.prog 17 [.ptr 1000 0,.int .i64 n_] [(1000,.cells [.sl (t_.L.map (V.int .i64)),.int .i64 t_.at_])] (F_1 t_ n_) (fun z=>.int .i64 z.1) (fun z=>[(1000,.cells [.sl (z.2.L.map (V.int .i64)),.int .i64 z.2.at_])]):=fun Q Q' h hQ=>by
 refine acallM mc_1 [] [1000] [.t 4] Tryz.func17 fun M=>?_
 unfold F_1 at h
 unfold mc_1
 replace h:=tY h
 refine tB ?_
 repeat' (first
 | (exact tZ)
 | ((first|refine oblg h ?_|refine roomG h ?_|refine divG h ?_|refine fork h ?_ ?_|refine forkS h ?_ ?_)<;>clear h<;>intro hc h)
 | (refine tE ?_;(first|rw [M.lok_compU]|rw [M.lokD_compU]);refine tB ?_)
 | (refine tA ?_)
 | fail)
def F_j (t_:GTape) (a_:Int) (b_:Int):Option (Int×GTape) :=
 chk (in64 (b_ - a_)) (chk (in64 ((b_ - a_)+1)) ((F_1 t_ ((b_ - a_)+1)).bind fun y2=>chk (in64 (a_+y2.1)) (some ((a_+y2.1),y2.2))))
def mc_j:MC :=
 (sR [oC 0 6]
 (sR [oV 1 7,
 oV 0 8,
 oV 2 9,
 oV 1 10,
 mo (.bin true .sub (.t 9) (.t 10)) 11,
 mo (.bin true .add (.t 11) (cI 1)) 12,
 mo (.call (.f 17) [(.t 8),(.t 12)] [1000] []) 13,
 mo (.bin true .add (.t 7) (.t 13)) 14,
 oV 14 6]
 .ret))
theorem Wq_j {t_:GTape} {a_ b_:Int}:Cn Tryz.prog 11 [.ptr 1000 0,.int .i64 a_,.int .i64 b_] [(1000,.cells [.sl (t_.L.map (V.int .i64)),.int .i64 t_.at_])] (F_j t_ a_ b_) (fun z=>.int .i64 z.1) (fun z=>[(1000,.cells [.sl (z.2.L.map (V.int .i64)),.int .i64 z.2.at_])]):=fun Q Q' h hQ=>by
 refine acallM mc_j [] [1000] [.t 6] Tryz.func11 fun M=>?_
 unfold F_j at h
 unfold mc_j
 replace h:=tY h
 refine tB ?_
 repeat' (first
 | (exact tZ)
 | ((first|refine oblg h ?_|refine roomG h ?_|refine fork h ?_ ?_|refine forkS h ?_ ?_)<;>clear h<;>intro hc h)
 | (obtain ⟨y,hy,h⟩:=h;have hw:=Wq_1.w hy;replace hw:=tY hw;(first|refine M.sC hw ?_|refine M.sD hw ?_);clear hw hy;refine tB ?_)
 | (refine tE ?_;(first|rw [M.lok_compU]|rw [M.lokD_compU]);refine tB ?_)
 | (refine tA ?_)
 | fail)
noncomputable def FR_0:Nat→GTape→Int→Option (GTerm×GTape)
 | 0,_,_=>none
 | n+1,t_,deep_ =>
 (F_j t_ 1 11).bind fun y2=>jn (α:=Int) (grp ((decide (deep_≤1)&&decide (9≤y2.1))) fun b7=>bif b7 then chk (in64 (y2.1 - 3)) (some (y2.1 - 3)) else some y2.1) fun j5=>bif decide (j5=1) then (F_1 y2.2 4).bind fun y27=>chk (inb y27.1 [[107,105,110,100,48],[107,105,110,100,49],[112,108,97,105,110,48],[110,111,110,101]].length) (some ((GTerm.mk j5 ([[107,105,110,100,48],[107,105,110,100,49],[112,108,97,105,110,48],[110,111,110,101]].getD ((y27.1).toNat) default) 0 0 []),y27.2)) else jn (α:=Bool) (bif decide (j5=2) then some true else some (decide (j5=3))) fun j28=>bif j28 then (F_1 y2.2 6).bind fun y29=>chk (inb y29.1 [[97],[49,58],[102,48],[100,111,99,115,47],[33,105,110],[50]].length) (some ((GTerm.mk j5 ([[97],[49,58],[102,48],[100,111,99,115,47],[33,105,110],[50]].getD ((y29.1).toNat) default) 0 0 []),y29.2)) else bif decide (j5=7) then (F_1 y2.2 4).bind fun y30=>some ((GTerm.mk j5 [] 0 (IntKind.wrap .u64 y30.1) []),y30.2) else bif decide (j5=9) then chk (in64 (deep_ - 1)) ((FR_0 n y2.2 (deep_ - 1)).bind fun y31=>some ((GTerm.mk j5 [] 0 0 [y31.1]),y31.2)) else jn (α:=Bool) (bif decide (j5=10) then some true else some (decide (j5=11))) fun j32=>bif j32 then (F_j y2.2 2 3).bind fun y34=>(loop (fun (x41:Int×Int×(List GTerm)×GTape)=>(bif decide (0<x41.1) then chk (in64 (deep_ - 1)) ((FR_0 n x41.2.2.2 (deep_ - 1)).bind fun y45=>chk (room (x41.2.2.1.length+[y45.1].length) 64) (chk (in64 (x41.1 - 1)) (some (.nx ((x41.1 - 1),x41.2.1,(x41.2.2.1++[y45.1]),y45.2))))) else some (.ex (x41.2.1,x41.2.2.1,x41.2.2.2)):Option (Fl (Int×Int×(List GTerm)×GTape) (Int×(List GTerm)×GTape)))) (y34.1,j5,[],y34.2)).bind fun r46=>some ((GTerm.mk r46.1 [] 0 0 r46.2.1),r46.2.2) else (F_1 y2.2 8).bind fun y47=>some ((GTerm.mk j5 [] y47.1 0 []),y47.2)
noncomputable def F_0 (t_:GTape) (deep_:Int):Option (GTerm×GTape):=lim fun n=>FR_0 n t_ deep_
@[irreducible] def mg_3m:List MOp:=[gT 12 13 (.mv (.t 5)),
 gT 12 14 (.bin false .geq (.t 13) (cI 9)),
 mo (.pick (.t 12) (.t 14) (.c (.bool false))) 15]
@[irreducible] def mc_3n:MC :=
 (.seq (sR [oV 7 60,
 mo (.bin false .gtr (.t 60) (cI 0)) 61]
 (.cond (.t 61)
 .skip
 (.exit 1)))
 (.seq (.block 2
 (.regD [oF 4 6 64,
 oL 64 65,
 oV 0 66,
 oV 1 67,
 mo (.bin true .sub (.t 67) (cI 1)) 68,
 mo (.call (.f 21) [(.t 66),(.t 68)] [1000] []) 69,
 mo (.bslice 5 [(.t 69)]) 70,
 mo (.app 5 64 (.t 65) (.t 70)) 71,
 oF 4 6 72,
 ⟨.st 1 (.t 72) (.t 71),none,none⟩]
 [[],[0],[],[],[3],[2,4],[5],[1,6,5],[0,1,2,3,4,5,6,7],[8,7,7,0,1,2,3,4,5,6,7]]
 [[],[0],[],[],[3],[2,3,4],[2,3,4,5],[0,1,2,3,4,5,6],[0,1,2,3,4,5,6,7],[0,1,2,3,4,5,6,7,8]]))
 (.note (.gc [0,1,4,6,7]) (.reg [oV 7 62,
 mo (.bin true .sub (.t 62) (cI 1)) 63,
 oV 63 7]))))
@[irreducible] def mc_3o:MC :=
 (.cond (.t 55)
 (sR [oV 0 58,
 mo (.call (.f 11) [(.t 58),(cI 2),(cI 3)] [1000] []) 59,
 oV 59 7]
 (.block 1
 (.loop mc_3n)))
 (.reg [oV 0 21,
 mo (.call (.f 17) [(.t 21),(cI 8)] [1000] []) 22,
 oF 2 6 23,
 ⟨.st 1 (.t 23) (.t 22),none,none⟩]))
@[irreducible] def mc_3p:MC :=
 (.cond (.t 32)
 (.reg [mo (.bslice 1 [(.c (.str [97])),(.c (.str [49,58])),(.c (.str [102,48])),(.c (.str [100,111,99,115,47])),(.c (.str [33,105,110])),(.c (.str [50]))]) 35,
 oV 0 36,
 mo (.call (.f 17) [(.t 36),(cI 6)] [1000] []) 37,
 mo (.iad 1 (.t 35) (.t 37)) 38,
 oL 38 39,
 oF 1 6 40,
 ⟨.st 1 (.t 40) (.t 39),none,none⟩])
 (sR [mo (.bin false .eql (.t 20) (cI 7)) 42,
 oV 42 41]
 (.cond (.t 41)
 (.reg [oV 0 43,
 mo (.call (.f 17) [(.t 43),(cI 4)] [1000] []) 44,
 mo (.i2i false .u64 (.t 44)) 45,
 oF 3 6 46,
 ⟨.st 1 (.t 46) (.t 45),none,none⟩])
 (sR [mo (.bin false .eql (.t 20) (cI 9)) 48,
 oV 48 47]
 (.cond (.t 47)
 (.reg [oV 0 49,
 oV 1 50,
 mo (.bin true .sub (.t 50) (cI 1)) 51,
 mo (.call (.f 21) [(.t 49),(.t 51)] [1000] []) 52,
 mo (.bslice 5 [(.t 52)]) 53,
 oF 4 6 54,
 ⟨.st 1 (.t 54) (.t 53),none,none⟩])
 (.cut (sR [mo (.bin false .eql (.t 20) (cI 10)) 56,
 oV 56 55]
 (.cond (.t 55)
 .skip
 (.reg [mo (.bin false .eql (.t 20) (cI 11)) 57,
 oV 57 55])))
 mc_3o))))))
@[irreducible] def mc_3q:MC :=
 (sR [oV 5 18,
 mo (.build [(.int .i64 0),(.str []),(.int .i64 0),(.int .u64 0),.nils] [(0,1,(.t 18))]) 19,
 mo (.alloc [(.int .i64 0),(.str []),(.int .i64 0),(.int .u64 0),(.sl [])]) 6,
 ⟨.st 5 (.t 6) (.t 19),none,none⟩]
 (.seq (sR [oV 5 20]
 (.block 0
 (sR [mo (.bin false .eql (.t 20) (cI 1)) 25,
 oV 25 24]
 (.cond (.t 24)
 (.reg [mo (.bslice 1 [(.c (.str [107,105,110,100,48])),(.c (.str [107,105,110,100,49])),(.c (.str [112,108,97,105,110,48])),(.c (.str [110,111,110,101]))]) 26,
 oV 0 27,
 mo (.call (.f 17) [(.t 27),(cI 4)] [1000] []) 28,
 mo (.iad 1 (.t 26) (.t 28)) 29,
 oL 29 30,
 oF 1 6 31,
 ⟨.st 1 (.t 31) (.t 30),none,none⟩])
 (.cut (sR [mo (.bin false .eql (.t 20) (cI 2)) 33,
 oV 33 32]
 (.cond (.t 32)
 .skip
 (.reg [mo (.bin false .eql (.t 20) (cI 3)) 34,
 oV 34 32])))
 mc_3p)))))
 (sR [mo (.ld (some 5) (.t 6)) 73,
 ⟨.st 5 (.t 4) (.t 73),none,none⟩]
 .ret)))
def mc_0:MC :=
 (sR [mo (.alloc [(.int .i64 0),(.str []),(.int .i64 0),(.int .u64 0),(.sl [])]) 4]
 (sR [oV 0 8,
 mo (.call (.f 11) [(.t 8),(cI 1),(cI 11)] [1000] []) 9,
 oV 9 5]
 (.cut (.seq (.regI [.op (oV 1 10),
 .op (mo (.bin false .leq (.t 10) (cI 1)) 11),
 .op (oV 11 12),
 .grp mg_3m])
 (.cond (.t 15)
 (.reg [oV 5 16,
 mo (.bin true .sub (.t 16) (cI 3)) 17,
 oV 17 5])
 .skip))
 mc_3q)))
theorem Wq_0 {n:Nat} (ih_made_Term:∀{t_:GTape} {deep_:Int} {y:GTerm×GTape},FR_0 n t_ deep_=some y→ACall Tryz.prog 21 [.ptr 1000 0,.int .i64 deep_] [(1000,.cells [.sl (t_.L.map (V.int .i64)),.int .i64 t_.at_])] (fun r H=>r=GTerm.v y.1∧H=[(1000,.cells [.sl (y.2.L.map (V.int .i64)),.int .i64 y.2.at_])])) (t_:GTape) (deep_:Int) {Q:GTerm×GTape→Prop} {Q':V→Heap→Prop} (h:Ok (FR_0 (n+1) t_ deep_) Q) (hQ:∀z,Q z→Q' (GTerm.v z.1) [(1000,.cells [.sl (z.2.L.map (V.int .i64)),.int .i64 z.2.at_])]):ACall Tryz.prog 21 [.ptr 1000 0,.int .i64 deep_] [(1000,.cells [.sl (t_.L.map (V.int .i64)),.int .i64 t_.at_])] Q':=by
 refine acallM mc_0 [.fzc 4] [1000] [.c 4 (some 5)] Tryz.func21 fun M=>?_
 simp only [FR_0] at h
 unfold mc_0
 replace h:=tY h
 refine tB ?_
 repeat' (first
 | (exact tZ)
 | ((first|refine oblg h ?_|refine roomG h ?_|refine inbG h ?_|refine fork h ?_ ?_|refine forkS h ?_ ?_)<;>clear h<;>intro hc h)
 | (obtain ⟨y,hy,h⟩:=h;(first|with_reducible first|have hw:=Wq_j.w hy|have hw:=Wq_1.w hy|have hw:=ih_made_Term hy);replace hw:=tY hw;(first|refine M.sC hw ?_|refine M.sD hw ?_);clear hw hy;refine tB ?_)
 | (refine M.gv1 (ms:=mg_3m) 15 [13,14] h ?_ ?_<;>first
 | (clear h;intro K hK1;unfold mg_3m;refine tB ?_)
 | (clear h;intro b h;replace h:=tY h;refine tB ?_))
 | (refine M.wh1 (b:=mc_3n) [0,1,4,6] [6,4] (fun x=>[(7,.int .i64 x.1)]) (fun x=>[.p 6 0 [.int .i64 x.2.1],.p 6 4 [.osl 4100 5 0 x.2.2.1.length],.o 4100 (.arr 5 (x.2.2.1.map GTerm.v)),.o 1000 (.cells [.sl (x.2.2.2.L.map (V.int .i64)),.int .i64 x.2.2.2.at_])]) [.gc [0,1,4,6,7],.ownC 6 4 4100 5 none] h ?_ ?_<;>first
 | (clear h;intro x Qn K hK2 h;unfold mc_3n;replace h:=tY h;refine tB ?_)
  |(clear h;(try refine tB ?_);exact tU0;done))
 | (refine M.jn1 (b:=mc_3o) [0,1,4,6] [6,4,1000] (fun y=>[(55,.bool y)]) (fun y=>[]) [] h ?_ ?_<;>first
 | (clear h;intro Qn K hK3 h;replace h:=tY h;refine tB ?_)
  |(clear h;intro y h;unfold mc_3o;replace h:=tY h;refine tB ?_))
 | (refine M.jn1 (b:=mc_3p) [0,1,4,6,20] [6,4,1000] (fun y=>[(32,.bool y)]) (fun y=>[]) [] h ?_ ?_<;>first
 | (clear h;intro Qn K hK4 h;replace h:=tY h;refine tB ?_)
  |(clear h;intro y h;unfold mc_3p;replace h:=tY h;refine tB ?_))
 | (refine M.jn1 (b:=mc_3q) [0,1,4] [4,1000] (fun y=>[(5,.int .i64 y)]) (fun y=>[]) [] h ?_ ?_<;>first
 | (clear h;intro Qn K hK5 h;replace h:=tY h;refine tB ?_)
  |(clear h;intro y h;unfold mc_3q;replace h:=tY h;refine tB ?_))
 | (refine hK1 _ ?_;exact tU;done)
 | ((first|refine hK2 _ ?_|refine hK3 _ ?_|refine hK4 _ ?_|refine hK5 _ ?_);(try refine tB ?_);refine ⟨_,h,?_⟩;exact tU0;done)
 | (refine bfork (fun hc=>?_) (fun hc=>?_))
 | (refine tE4 V.str ?_;(first|rw [M.lok_compU]|rw [M.lokD_compU]|(simp only [V.cells];first|rw [M.lok_comp]|rw [M.lokD_comp]));refine tB ?_)
 | (refine tE ?_;(first|rw [M.lok_compU]|rw [M.lokD_compU]);refine tB ?_)
 | (refine tA ?_)
 | fail)
theorem WG_0:∀n,(∀{t_:GTape} {deep_:Int} {y:GTerm×GTape},FR_0 n t_ deep_=some y→ACall Tryz.prog 21 [.ptr 1000 0,.int .i64 deep_] [(1000,.cells [.sl (t_.L.map (V.int .i64)),.int .i64 t_.at_])] (fun r H=>r=GTerm.v y.1∧H=[(1000,.cells [.sl (y.2.L.map (V.int .i64)),.int .i64 y.2.at_])]))
 | 0=>fun hy=>(by simp only [FR_0] at hy;cases hy)
 | n+1=>by
  have ih_made_Term:=@WG_0 n
  exact fun hy=>Wq_0 ih_made_Term _ _ (Q:=(·=_)) ⟨_,hy,rfl⟩ fun|_,rfl=>⟨rfl,rfl⟩
theorem W_0:∀{t_:GTape} {deep_:Int} {y:GTerm×GTape},F_0 t_ deep_=some y→ACall Tryz.prog 21 [.ptr 1000 0,.int .i64 deep_] [(1000,.cells [.sl (t_.L.map (V.int .i64)),.int .i64 t_.at_])] (fun r H=>r=GTerm.v y.1∧H=[(1000,.cells [.sl (y.2.L.map (V.int .i64)),.int .i64 y.2.at_])]):=fun hy=>by
 obtain ⟨n,hn⟩:=lim_inv hy
 exact (WG_0 n) hn
mutual
def FR_4d:Nat→(List GTerm)→(List GTerm)→Option Bool
 | 0,_,_=>none
 | n+1,s1_,s2_ =>
 bif (!decide ((s1_.length:Int)=(s2_.length:Int))) then some false else (forL (fun (k31:Int) (a32:GTerm) (x30:Unit)=>(chk (inb k31 s2_.length) ((FR_4e n a32 (s2_.getD (k31).toNat default)).bind fun y40=>bif (!y40) then some (.ex false) else some (.nx ())):Option (Fl Unit Bool))) s1_ 0 ()).bind fun o=>o.elim (fun x41=>some true) (fun r42=>some r42)
def FR_4e:Nat→GTerm→GTerm→Option Bool
 | 0,_,_=>none
 | n+1,a_,b_ =>
 grp ((decide (a_.Op=b_.Op)&&decide (a_.Text=b_.Text))) fun b6=>grp ((b6&&decide (a_.Number=b_.Number))) fun b7=>grp ((b7&&decide (a_.Print=b_.Print))) fun b8=>jn (α:=Bool) (bif b8 then (FR_4d n a_.Kids b_.Kids).bind fun y10=>some y10 else some false) fun j11=>some j11
end
end Go.Ab
