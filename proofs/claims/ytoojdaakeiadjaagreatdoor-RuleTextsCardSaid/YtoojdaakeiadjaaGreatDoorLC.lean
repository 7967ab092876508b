/- What the functions of this seat that lie on the laws' road compute (part LC), each for every input. By AI agents. -/
import Derived.Test.YtoojdaakeiadjaaGreatDoorProg
import Derived.KernelRfl
import Derived.Test.YtoojdaakeiadjaaGreatDoorAbFun
import Derived.Test.YtoojdaakeiadjaaGreatDoorLB
set_option linter.all false
set_option linter.all false
set_option maxRecDepth 20000
set_option maxHeartbeats 2000000
namespace Go.Ab
open Go.Proofs
structure GTape where
 L:List Int
 at_:Int
instance:Inhabited GTape:=⟨⟨default,default⟩⟩
def GTape.v (x:GTape):V:=.agg [.sl (x.L.map (V.int .i64)),.int .i64 x.at_]
attribute [go_sem] GTape.v
def FR_1:Nat→Int→Option Str
 | 0,_=>none
 | n+1,n_ =>
 bif decide (n_<10) then some [(u8 (48+((u8 n_).toNat:Int)))] else chk (divs n_ 10) ((FR_1 n (n_ / 10)).bind fun y2=>chk (divs n_ 10) (chk (strl (y2.length+[(u8 (48+((u8 (n_ % 10)).toNat:Int)))].length)) (some (y2++[(u8 (48+((u8 (n_ % 10)).toNat:Int)))]))))
noncomputable def F_1 (n_:Int):Option Str:=lim fun n=>FR_1 n n_
def mc_1:MC :=
 (sR [mo (.mv (.c (.str []))) 2]
 (.seq (sR [oV 0 3,
 mo (.bin false .lss (.t 3) (cI 10)) 4]
 (.cond (.t 4)
 (sR [oV 0 5,
 mo (.i2i false .u8 (.t 5)) 6,
 mo (.bin false .add (.c (.int .u8 48)) (.t 6)) 7,
 mo (.bslice 1 [(.t 7)]) 8,
 mo (.b2s (.t 8)) 9,
 oV 9 2]
 .ret)
 .skip))
 (.seq (.regD [oV 0 10,
 mo (.bin true .quo (.t 10) (cI 10)) 11,
 mo (.call (.f 30) [(.t 11)] [] []) 12,
 oV 0 13,
 mo (.bin true .rem (.t 13) (cI 10)) 14,
 mo (.i2i false .u8 (.t 14)) 15,
 mo (.bin false .add (.c (.int .u8 48)) (.t 15)) 16,
 mo (.bslice 1 [(.t 16)]) 17,
 mo (.b2s (.t 17)) 18,
 mo (.bin false .add (.t 12) (.t 18)) 19,
 oV 19 2]
 [[],[0],[1],[],[3],[4],[5],[6],[7],[2,8],[9,2,0,1,2,3,4,5,6,7,8,9]]
 [[],[0],[0,1],[],[3],[3,4],[3,4,5],[3,4,5,6],[3,4,5,6,7],[0,1,2,3,4,5,6,7,8],[0,1,2,3,4,5,6,7,8,9]])
 .ret)))
theorem Wq_1 {n:Nat} (ih_ref07_Number:∀{n_:Int} {y:Str},FR_1 n n_=some y→ACall Tryz.prog 30 [.int .i64 n_] [] (fun r H=>r=.str y∧H=[])) (n_:Int) {Q:Str→Prop} {Q':V→Heap→Prop} (h:Ok (FR_1 (n+1) n_) Q) (hQ:∀z,Q z→Q' (.str z) []):ACall Tryz.prog 30 [.int .i64 n_] [] Q':=by
 refine acallM mc_1 [] [] [.t 2] Tryz.func30 fun M=>?_
 simp only [FR_1] at h
 unfold mc_1
 replace h:=tY h
 refine tB ?_
 repeat' (first
 | (exact tZ)
 | ((first|refine oblg h ?_|refine roomG h ?_|refine divG h ?_|refine fork h ?_ ?_|refine forkS h ?_ ?_)<;>clear h<;>intro hc h)
 | (obtain ⟨y,hy,h⟩:=h;have hw:=ih_ref07_Number hy;replace hw:=tY hw;(first|refine M.sC hw ?_|refine M.sD hw ?_);clear hw hy;refine tB ?_)
 | (refine tE ?_;(first|rw [M.lok_compU]|rw [M.lokD_compU]);refine tB ?_)
 | (refine tA ?_)
 | fail)
theorem WG_1:∀n,(∀{n_:Int} {y:Str},FR_1 n n_=some y→ACall Tryz.prog 30 [.int .i64 n_] [] (fun r H=>r=.str y∧H=[]))
 | 0=>fun hy=>(by simp only [FR_1] at hy;cases hy)
 | n+1=>by
  have ih_ref07_Number:=@WG_1 n
  exact fun hy=>Wq_1 ih_ref07_Number _ (Q:=(·=_)) ⟨_,hy,rfl⟩ fun|_,rfl=>⟨rfl,rfl⟩
theorem W_1:∀{n_:Int} {y:Str},F_1 n_=some y→ACall Tryz.prog 30 [.int .i64 n_] [] (fun r H=>r=.str y∧H=[]):=fun hy=>by
 obtain ⟨n,hn⟩:=lim_inv hy
 exact (WG_1 n) hn
def F_4 (t_:GTape) (n_:Int):Option (Int×GTape) :=
 bif decide ((t_.L.length:Int)≤t_.at_) then some (0,t_) else chk (inb t_.at_ t_.L.length) (chk (in64 (t_.at_+1)) (chk (divs ((t_.L.getD (t_.at_).toNat default) % 2^16) n_) (some ((((t_.L.getD (t_.at_).toNat default) % 2^16) % n_),(GTape.mk t_.L (t_.at_+1))))))
def mc_4:MC :=
 (sR [oC 0 4]
 (.seq (.seq (.regD [oV 0 6,
 mo (.nck (.t 6)) 7,
 oF 1 7 8,
 oL 8 9,
 oV 0 10,
 mo (.nck (.t 10)) 11,
 oF 0 11 12,
 oL 12 13,
 mo (.len false (.t 13)) 14,
 mo (.bin false .geq (.t 9) (.t 14)) 15]
 [[],[0],[1],[2],[],[4],[5],[6],[7],[3,8]]
 [[],[0],[0,1],[0,1,2],[],[4],[4,5],[4,5,6],[4,5,6,7],[0,1,2,3,4,5,6,7,8]])
 (.cond (.t 15)
 (sR [oC 0 4]
 .ret)
 .skip))
 (.seq (.note (.gc [0,1]) (.regD [oV 0 16,
 mo (.nck (.t 16)) 17,
 oF 0 17 18,
 oL 18 19,
 oV 0 20,
 mo (.nck (.t 20)) 21,
 oF 1 21 22,
 oL 22 23,
 mo (.iad 1 (.t 19) (.t 23)) 24,
 oL 24 25,
 mo (.mask 16 (.t 25) .i64) 26,
 oV 26 5]
 [[],[0],[1],[2],[],[4],[5],[6],[3,7],[8],[9],[10,0,1,2,3,4,5,6,7,8,9,10]]
 [[],[0],[0,1],[0,1,2],[],[4],[4,5],[4,5,6],[0,1,2,3,4,5,6,7],[0,1,2,3,4,5,6,7,8],[0,1,2,3,4,5,6,7,8,9],[0,1,2,3,4,5,6,7,8,9,10]]))
 (.seq (.note (.gc [0,1,5]) (.reg [oV 0 27,
 mo (.nck (.t 27)) 28,
 oF 1 28 29,
 oL 29 30,
 mo (.bin true .add (.t 30) (cI 1)) 31,
 mo (.nck (.t 27)) 32,
 oF 1 32 33,
 ⟨.st 1 (.t 33) (.t 31),none,none⟩]))
 (.seq (.note (.gc [1,5]) (.reg [oV 5 34,
 oV 1 35,
 mo (.bin true .rem (.t 34) (.t 35)) 36,
 oV 36 4]))
 .ret)))))
theorem Wq_4 {t_:GTape} {n_:Int}:Cn Tryz.prog 17 [.ptr 1000 0,.int .i64 n_] [(1000,.cells [.sl (t_.L.map (V.int .i64)),.int .i64 t_.at_])] (F_4 t_ n_) (fun z=>.int .i64 z.1) (fun z=>[(1000,.cells [.sl (z.2.L.map (V.int .i64)),.int .i64 z.2.at_])]):=fun Q Q' h hQ=>by
 refine acallM mc_4 [] [1000] [.t 4] Tryz.func17 fun M=>?_
 unfold F_4 at h
 unfold mc_4
 replace h:=tY h
 refine tB ?_
 repeat' (first
 | (exact tZ)
 | ((first|refine oblg h ?_|refine roomG h ?_|refine divG h ?_|refine fork h ?_ ?_|refine forkS h ?_ ?_)<;>clear h<;>intro hc h)
 | (refine tE ?_;(first|rw [M.lok_compU]|rw [M.lokD_compU]);refine tB ?_)
 | (refine tA ?_)
 | fail)
def F_r (t_:GTape) (a_:Int) (b_:Int):Option (Int×GTape) :=
 chk (in64 (b_ - a_)) (chk (in64 ((b_ - a_)+1)) ((F_4 t_ ((b_ - a_)+1)).bind fun y2=>chk (in64 (a_+y2.1)) (some ((a_+y2.1),y2.2))))
def mc_r:MC :=
 (sR [oC 0 6]
 (sR [oV 1 7,
 oV 0 8,
 oV 2 9,
 oV 1 10,
 mo (.bin true .sub (.t 9) (.t 10)) 11,
 mo (.bin true .add (.t 11) (cI 1)) 12,
 mo (.call (.f 17) [(.t 8),(.t 12)] [1000] []) 13,
 mo (.bin true .add (.t 7) (.t 13)) 14,
 oV 14 6]
 .ret))
theorem Wq_r {t_:GTape} {a_ b_:Int}:Cn Tryz.prog 11 [.ptr 1000 0,.int .i64 a_,.int .i64 b_] [(1000,.cells [.sl (t_.L.map (V.int .i64)),.int .i64 t_.at_])] (F_r t_ a_ b_) (fun z=>.int .i64 z.1) (fun z=>[(1000,.cells [.sl (z.2.L.map (V.int .i64)),.int .i64 z.2.at_])]):=fun Q Q' h hQ=>by
 refine acallM mc_r [] [1000] [.t 6] Tryz.func11 fun M=>?_
 unfold F_r at h
 unfold mc_r
 replace h:=tY h
 refine tB ?_
 repeat' (first
 | (exact tZ)
 | ((first|refine oblg h ?_|refine roomG h ?_|refine fork h ?_ ?_|refine forkS h ?_ ?_)<;>clear h<;>intro hc h)
 | (obtain ⟨y,hy,h⟩:=h;have hw:=Wq_4.w hy;replace hw:=tY hw;(first|refine M.sC hw ?_|refine M.sD hw ?_);clear hw hy;refine tB ?_)
 | (refine tE ?_;(first|rw [M.lok_compU]|rw [M.lokD_compU]);refine tB ?_)
 | (refine tA ?_)
 | fail)
noncomputable def FR_0:Nat→GTape→Int→Option (GTerm×GTape)
 | 0,_,_=>none
 | n+1,t_,deep_ =>
 (F_r t_ 1 11).bind fun y2=>jn (α:=Int) (grp ((decide (deep_≤1)&&decide (9≤y2.1))) fun b7=>bif b7 then chk (in64 (y2.1 - 3)) (some (y2.1 - 3)) else some y2.1) fun j5=>bif decide (j5=1) then (F_4 y2.2 4).bind fun y27=>chk (inb y27.1 [[107,105,110,100,48],[107,105,110,100,49],[112,108,97,105,110,48],[110,111,110,101]].length) (some ((GTerm.mk j5 ([[107,105,110,100,48],[107,105,110,100,49],[112,108,97,105,110,48],[110,111,110,101]].getD ((y27.1).toNat) default) 0 0 []),y27.2)) else jn (α:=Bool) (bif decide (j5=2) then some true else some (decide (j5=3))) fun j28=>bif j28 then (F_4 y2.2 6).bind fun y29=>chk (inb y29.1 [[97],[49,58],[102,48],[100,111,99,115,47],[33,105,110],[50]].length) (some ((GTerm.mk j5 ([[97],[49,58],[102,48],[100,111,99,115,47],[33,105,110],[50]].getD ((y29.1).toNat) default) 0 0 []),y29.2)) else bif decide (j5=7) then (F_4 y2.2 4).bind fun y30=>some ((GTerm.mk j5 [] 0 (IntKind.wrap .u64 y30.1) []),y30.2) else bif decide (j5=9) then chk (in64 (deep_ - 1)) ((FR_0 n y2.2 (deep_ - 1)).bind fun y31=>some ((GTerm.mk j5 [] 0 0 [y31.1]),y31.2)) else jn (α:=Bool) (bif decide (j5=10) then some true else some (decide (j5=11))) fun j32=>bif j32 then (F_r y2.2 2 3).bind fun y34=>(loop (fun (x41:Int×Int×(List GTerm)×GTape)=>(bif decide (0<x41.1) then chk (in64 (deep_ - 1)) ((FR_0 n x41.2.2.2 (deep_ - 1)).bind fun y45=>chk (room (x41.2.2.1.length+[y45.1].length) 64) (chk (in64 (x41.1 - 1)) (some (.nx ((x41.1 - 1),x41.2.1,(x41.2.2.1++[y45.1]),y45.2))))) else some (.ex (x41.2.1,x41.2.2.1,x41.2.2.2)):Option (Fl (Int×Int×(List GTerm)×GTape) (Int×(List GTerm)×GTape)))) (y34.1,j5,[],y34.2)).bind fun r46=>some ((GTerm.mk r46.1 [] 0 0 r46.2.1),r46.2.2) else (F_4 y2.2 8).bind fun y47=>some ((GTerm.mk j5 [] y47.1 0 []),y47.2)
noncomputable def F_0 (t_:GTape) (deep_:Int):Option (GTerm×GTape):=lim fun n=>FR_0 n t_ deep_
@[irreducible] def mg_43:List MOp:=[gT 12 13 (.mv (.t 5)),
 gT 12 14 (.bin false .geq (.t 13) (cI 9)),
 mo (.pick (.t 12) (.t 14) (.c (.bool false))) 15]
@[irreducible] def mc_44:MC :=
 (.seq (sR [oV 7 60,
 mo (.bin false .gtr (.t 60) (cI 0)) 61]
 (.cond (.t 61)
 .skip
 (.exit 1)))
 (.seq (.block 2
 (.regD [oF 4 6 64,
 oL 64 65,
 oV 0 66,
 oV 1 67,
 mo (.bin true .sub (.t 67) (cI 1)) 68,
 mo (.call (.f 21) [(.t 66),(.t 68)] [1000] []) 69,
 mo (.bslice 5 [(.t 69)]) 70,
 mo (.app 5 64 (.t 65) (.t 70)) 71,
 oF 4 6 72,
 ⟨.st 1 (.t 72) (.t 71),none,none⟩]
 [[],[0],[],[],[3],[2,4],[5],[1,6,5],[0,1,2,3,4,5,6,7],[8,7,7,0,1,2,3,4,5,6,7]]
 [[],[0],[],[],[3],[2,3,4],[2,3,4,5],[0,1,2,3,4,5,6],[0,1,2,3,4,5,6,7],[0,1,2,3,4,5,6,7,8]]))
 (.note (.gc [0,1,4,6,7]) (.reg [oV 7 62,
 mo (.bin true .sub (.t 62) (cI 1)) 63,
 oV 63 7]))))
@[irreducible] def mc_45:MC :=
 (.cond (.t 55)
 (sR [oV 0 58,
 mo (.call (.f 11) [(.t 58),(cI 2),(cI 3)] [1000] []) 59,
 oV 59 7]
 (.block 1
 (.loop mc_44)))
 (.reg [oV 0 21,
 mo (.call (.f 17) [(.t 21),(cI 8)] [1000] []) 22,
 oF 2 6 23,
 ⟨.st 1 (.t 23) (.t 22),none,none⟩]))
@[irreducible] def mc_46:MC :=
 (.cond (.t 32)
 (.reg [mo (.bslice 1 [(.c (.str [97])),(.c (.str [49,58])),(.c (.str [102,48])),(.c (.str [100,111,99,115,47])),(.c (.str [33,105,110])),(.c (.str [50]))]) 35,
 oV 0 36,
 mo (.call (.f 17) [(.t 36),(cI 6)] [1000] []) 37,
 mo (.iad 1 (.t 35) (.t 37)) 38,
 oL 38 39,
 oF 1 6 40,
 ⟨.st 1 (.t 40) (.t 39),none,none⟩])
 (sR [mo (.bin false .eql (.t 20) (cI 7)) 42,
 oV 42 41]
 (.cond (.t 41)
 (.reg [oV 0 43,
 mo (.call (.f 17) [(.t 43),(cI 4)] [1000] []) 44,
 mo (.i2i false .u64 (.t 44)) 45,
 oF 3 6 46,
 ⟨.st 1 (.t 46) (.t 45),none,none⟩])
 (sR [mo (.bin false .eql (.t 20) (cI 9)) 48,
 oV 48 47]
 (.cond (.t 47)
 (.reg [oV 0 49,
 oV 1 50,
 mo (.bin true .sub (.t 50) (cI 1)) 51,
 mo (.call (.f 21) [(.t 49),(.t 51)] [1000] []) 52,
 mo (.bslice 5 [(.t 52)]) 53,
 oF 4 6 54,
 ⟨.st 1 (.t 54) (.t 53),none,none⟩])
 (.cut (sR [mo (.bin false .eql (.t 20) (cI 10)) 56,
 oV 56 55]
 (.cond (.t 55)
 .skip
 (.reg [mo (.bin false .eql (.t 20) (cI 11)) 57,
 oV 57 55])))
 mc_45))))))
@[irreducible] def mc_47:MC :=
 (sR [oV 5 18,
 mo (.build [(.int .i64 0),(.str []),(.int .i64 0),(.int .u64 0),.nils] [(0,1,(.t 18))]) 19,
 mo (.alloc [(.int .i64 0),(.str []),(.int .i64 0),(.int .u64 0),(.sl [])]) 6,
 ⟨.st 5 (.t 6) (.t 19),none,none⟩]
 (.seq (sR [oV 5 20]
 (.block 0
 (sR [mo (.bin false .eql (.t 20) (cI 1)) 25,
 oV 25 24]
 (.cond (.t 24)
 (.reg [mo (.bslice 1 [(.c (.str [107,105,110,100,48])),(.c (.str [107,105,110,100,49])),(.c (.str [112,108,97,105,110,48])),(.c (.str [110,111,110,101]))]) 26,
 oV 0 27,
 mo (.call (.f 17) [(.t 27),(cI 4)] [1000] []) 28,
 mo (.iad 1 (.t 26) (.t 28)) 29,
 oL 29 30,
 oF 1 6 31,
 ⟨.st 1 (.t 31) (.t 30),none,none⟩])
 (.cut (sR [mo (.bin false .eql (.t 20) (cI 2)) 33,
 oV 33 32]
 (.cond (.t 32)
 .skip
 (.reg [mo (.bin false .eql (.t 20) (cI 3)) 34,
 oV 34 32])))
 mc_46)))))
 (sR [mo (.ld (some 5) (.t 6)) 73,
 ⟨.st 5 (.t 4) (.t 73),none,none⟩]
 .ret)))
def mc_0:MC :=
 (sR [mo (.alloc [(.int .i64 0),(.str []),(.int .i64 0),(.int .u64 0),(.sl [])]) 4]
 (sR [oV 0 8,
 mo (.call (.f 11) [(.t 8),(cI 1),(cI 11)] [1000] []) 9,
 oV 9 5]
 (.cut (.seq (.regI [.op (oV 1 10),
 .op (mo (.bin false .leq (.t 10) (cI 1)) 11),
 .op (oV 11 12),
 .grp mg_43])
 (.cond (.t 15)
 (.reg [oV 5 16,
 mo (.bin true .sub (.t 16) (cI 3)) 17,
 oV 17 5])
 .skip))
 mc_47)))
theorem Wq_0 {n:Nat} (ih_made_Term:∀{t_:GTape} {deep_:Int} {y:GTerm×GTape},FR_0 n t_ deep_=some y→ACall Tryz.prog 21 [.ptr 1000 0,.int .i64 deep_] [(1000,.cells [.sl (t_.L.map (V.int .i64)),.int .i64 t_.at_])] (fun r H=>r=GTerm.v y.1∧H=[(1000,.cells [.sl (y.2.L.map (V.int .i64)),.int .i64 y.2.at_])])) (t_:GTape) (deep_:Int) {Q:GTerm×GTape→Prop} {Q':V→Heap→Prop} (h:Ok (FR_0 (n+1) t_ deep_) Q) (hQ:∀z,Q z→Q' (GTerm.v z.1) [(1000,.cells [.sl (z.2.L.map (V.int .i64)),.int .i64 z.2.at_])]):ACall Tryz.prog 21 [.ptr 1000 0,.int .i64 deep_] [(1000,.cells [.sl (t_.L.map (V.int .i64)),.int .i64 t_.at_])] Q':=by
 refine acallM mc_0 [.fzc 4] [1000] [.c 4 (some 5)] Tryz.func21 fun M=>?_
 simp only [FR_0] at h
 unfold mc_0
 replace h:=tY h
 refine tB ?_
 repeat' (first
 | (exact tZ)
 | ((first|refine oblg h ?_|refine roomG h ?_|refine inbG h ?_|refine fork h ?_ ?_|refine forkS h ?_ ?_)<;>clear h<;>intro hc h)
 | (obtain ⟨y,hy,h⟩:=h;(first|with_reducible first|have hw:=Wq_r.w hy|have hw:=Wq_4.w hy|have hw:=ih_made_Term hy);replace hw:=tY hw;(first|refine M.sC hw ?_|refine M.sD hw ?_);clear hw hy;refine tB ?_)
 | (refine M.gv1 (ms:=mg_43) 15 [13,14] h ?_ ?_<;>first
 | (clear h;intro K hK1;unfold mg_43;refine tB ?_)
 | (clear h;intro b h;replace h:=tY h;refine tB ?_))
 | (refine M.wh1 (b:=mc_44) [0,1,4,6] [6,4] (fun x=>[(7,.int .i64 x.1)]) (fun x=>[.p 6 0 [.int .i64 x.2.1],.p 6 4 [.osl 4100 5 0 x.2.2.1.length],.o 4100 (.arr 5 (x.2.2.1.map GTerm.v)),.o 1000 (.cells [.sl (x.2.2.2.L.map (V.int .i64)),.int .i64 x.2.2.2.at_])]) [.gc [0,1,4,6,7],.ownC 6 4 4100 5 none] h ?_ ?_<;>first
 | (clear h;intro x Qn K hK2 h;unfold mc_44;replace h:=tY h;refine tB ?_)
  |(clear h;(try refine tB ?_);exact tU0;done))
 | (refine M.jn1 (b:=mc_45) [0,1,4,6] [6,4,1000] (fun y=>[(55,.bool y)]) (fun y=>[]) [] h ?_ ?_<;>first
 | (clear h;intro Qn K hK3 h;replace h:=tY h;refine tB ?_)
  |(clear h;intro y h;unfold mc_45;replace h:=tY h;refine tB ?_))
 | (refine M.jn1 (b:=mc_46) [0,1,4,6,20] [6,4,1000] (fun y=>[(32,.bool y)]) (fun y=>[]) [] h ?_ ?_<;>first
 | (clear h;intro Qn K hK4 h;replace h:=tY h;refine tB ?_)
  |(clear h;intro y h;unfold mc_46;replace h:=tY h;refine tB ?_))
 | (refine M.jn1 (b:=mc_47) [0,1,4] [4,1000] (fun y=>[(5,.int .i64 y)]) (fun y=>[]) [] h ?_ ?_<;>first
 | (clear h;intro Qn K hK5 h;replace h:=tY h;refine tB ?_)
  |(clear h;intro y h;unfold mc_47;replace h:=tY h;refine tB ?_))
 | (refine hK1 _ ?_;exact tU;done)
 | ((first|refine hK2 _ ?_|refine hK3 _ ?_|refine hK4 _ ?_|refine hK5 _ ?_);(try refine tB ?_);refine ⟨_,h,?_⟩;exact tU0;done)
 | (refine bfork (fun hc=>?_) (fun hc=>?_))
 | (refine tE4 V.str ?_;(first|rw [M.lok_compU]|rw [M.lokD_compU]|(simp only [V.cells];first|rw [M.lok_comp]|rw [M.lokD_comp]));refine tB ?_)
 | (refine tE ?_;(first|rw [M.lok_compU]|rw [M.lokD_compU]);refine tB ?_)
 | (refine tA ?_)
 | fail)
theorem WG_0:∀n,(∀{t_:GTape} {deep_:Int} {y:GTerm×GTape},FR_0 n t_ deep_=some y→ACall Tryz.prog 21 [.ptr 1000 0,.int .i64 deep_] [(1000,.cells [.sl (t_.L.map (V.int .i64)),.int .i64 t_.at_])] (fun r H=>r=GTerm.v y.1∧H=[(1000,.cells [.sl (y.2.L.map (V.int .i64)),.int .i64 y.2.at_])]))
 | 0=>fun hy=>(by simp only [FR_0] at hy;cases hy)
 | n+1=>by
  have ih_made_Term:=@WG_0 n
  exact fun hy=>Wq_0 ih_made_Term _ _ (Q:=(·=_)) ⟨_,hy,rfl⟩ fun|_,rfl=>⟨rfl,rfl⟩
theorem W_0:∀{t_:GTape} {deep_:Int} {y:GTerm×GTape},F_0 t_ deep_=some y→ACall Tryz.prog 21 [.ptr 1000 0,.int .i64 deep_] [(1000,.cells [.sl (t_.L.map (V.int .i64)),.int .i64 t_.at_])] (fun r H=>r=GTerm.v y.1∧H=[(1000,.cells [.sl (y.2.L.map (V.int .i64)),.int .i64 y.2.at_])]):=fun hy=>by
 obtain ⟨n,hn⟩:=lim_inv hy
 exact (WG_0 n) hn
noncomputable def F_2f (n_:Int) (x37:Int×(List GRule)×GTape):Option (Fl (Int×(List GRule)×GTape) ((List GRule)×GTape)) :=
 bif decide (x37.1<n_) then (F_1 x37.1).bind fun y47=>chk (strl ([114].length+y47.length)) ((F_0 x37.2.2 3).bind fun y48=>(F_r y48.2 1 2).bind fun y49=>chk (room (x37.2.1.length+[(GRule.mk (([114]:Str)++y47) y48.1 y49.1)].length) 88) (chk (in64 (x37.1+1)) (some (.nx ((x37.1+1),(x37.2.1++[(GRule.mk (([114]:Str)++y47) y48.1 y49.1)]),y49.2))))) else some (.ex (x37.2.1,x37.2.2))
noncomputable def F_1m (t_:GTape) (n_:Int):Option ((List GRule)×GTape) :=
 (loop (F_2f n_) (0,[],t_)).bind fun r50=>some (r50.1,r50.2)
@[irreducible] def mc_2f:MC :=
 (.seq (sR [oV 6 7,
 oV 1 8,
 mo (.bin false .lss (.t 7) (.t 8)) 9]
 (.cond (.t 9)
 .skip
 (.exit 0)))
 (.seq (.block 1
 (.reg [oV 5 12,
 oV 6 13,
 mo (.call (.f 30) [(.t 13)] [] []) 14,
 mo (.bin false .add (.c (.str [114])) (.t 14)) 15,
 oV 0 16,
 mo (.call (.f 21) [(.t 16),(cI 3)] [1000] []) 17,
 oV 0 18,
 mo (.call (.f 11) [(.t 18),(cI 1),(cI 2)] [1000] []) 19,
 mo (.build [(.str []),(.int .i64 0),(.str []),(.int .i64 0),(.int .u64 0),(.sl []),(.int .i64 0)] [(0,1,(.t 15)),(1,5,(.t 17)),(6,1,(.t 19))]) 20,
 mo (.bslice 7 [(.t 20)]) 21,
 mo (.app 7 88 (.t 12) (.t 21)) 22,
 oV 22 5]))
 (.note (.gc [0,1,5,6]) (.reg [oV 6 10,
 mo (.bin true .add (.t 10) (cI 1)) 11,
 oV 11 6]))))
def mc_1m:MC :=
 (sR [mo (.mv (.c (.sl []))) 4]
 (sR [mo (.mv (.c .nils)) 5]
 (.seq (sR [oC 0 6]
 (.block 0
 (.loop mc_2f)))
 (sR [oV 5 23,
 oV 23 4]
 .ret))))
theorem Wq_1m {t_:GTape} {n_:Int}:Cn Tryz.prog 10 [.ptr 1000 0,.int .i64 n_] [(1000,.cells [.sl (t_.L.map (V.int .i64)),.int .i64 t_.at_])] (F_1m t_ n_) (fun z=>.sl (z.1.map GRule.v)) (fun z=>[(1000,.cells [.sl (z.2.L.map (V.int .i64)),.int .i64 z.2.at_])]):=fun Q Q' h hQ=>by
 refine acallM mc_1m [.fz 4] [1000] [.t 4] Tryz.func10 fun M=>?_
 unfold F_1m at h
 unfold mc_1m
 replace h:=tY h
 refine tB ?_
 repeat' (first
 | (exact tZ)
 | ((first|refine oblg h ?_|refine roomG h ?_|refine fork h ?_ ?_|refine forkS h ?_ ?_)<;>clear h<;>intro hc h)
 | (obtain ⟨y,hy,h⟩:=h;(first|with_reducible first|have hw:=W_1 hy|have hw:=W_0 hy|have hw:=Wq_r.w hy);replace hw:=tY hw;(first|refine M.sC hw ?_|refine M.sD hw ?_);clear hw hy;refine tB ?_)
 | (refine M.wh1 (b:=mc_2f) [0,1] [] (fun x=>[(5,.osl 2005 7 0 x.2.1.length),(6,.int .i64 x.1)]) (fun x=>[.o 2005 (.arr 7 (x.2.1.map GRule.v)),.o 1000 (.cells [.sl (x.2.2.L.map (V.int .i64)),.int .i64 x.2.2.at_])]) [.gc [0,1,5,6],.acc 5 2005 7] h ?_ ?_<;>first
 | (clear h;intro x Qn K hK1 h;unfold F_2f at h;unfold mc_2f;replace h:=tY h;refine tB ?_)
  |(clear h;(try refine tB ?_);exact tU0;done))
 | (refine hK1 _ ?_;(try refine tB ?_);refine ⟨_,h,?_⟩;exact tU0;done)
 | (refine tE ?_;(first|rw [M.lok_compU]|rw [M.lokD_compU]);refine tB ?_)
 | (refine tA ?_)
 | fail)
noncomputable def F_2g (x30:Int×GRule):Option (Fl (Int×GRule) GRule) :=
 bif decide (0<x30.1) then chk (in64 (x30.1 - 1)) (some (.nx ((x30.1 - 1),(GRule.mk x30.2.Name (GTerm.mk 9 [] 0 0 [x30.2.When]) x30.2.Verdict)))) else some (.ex x30.2)
noncomputable def F_1n (t_:GTape) (l_:List GRule):Option ((List GRule)×GTape) :=
 chk (room (([]:List GRule).length+l_.length) 88) ((F_0 t_ 2).bind fun y2=>chk (room ((([]:List GRule)++l_).length+[(GRule.mk [108,97,115,116] y2.1 2)].length) 88) ((F_4 y2.2 (((([]:List GRule)++l_)++[(GRule.mk [108,97,115,116] y2.1 2)]).length:Int)).bind fun y4=>chk (inb y4.1 ((([]:List GRule)++l_)++[(GRule.mk [108,97,115,116] y2.1 2)]).length) (jn (α:=GRule×GTape) ((F_4 y4.2 6).bind fun y20=>bif decide (y20.1=0) then (F_4 y20.2 4).bind fun y21=>chk (inb y21.1 [[],[65],[114,48],[97,58,98]].length) (some ((GRule.mk ([[],[65],[114,48],[97,58,98]].getD ((y21.1).toNat) default) ((((([]:List GRule)++l_)++[(GRule.mk [108,97,115,116] y2.1 2)]).getD ((y4.1).toNat) default).When) ((((([]:List GRule)++l_)++[(GRule.mk [108,97,115,116] y2.1 2)]).getD ((y4.1).toNat) default).Verdict)),y21.2)) else bif decide (y20.1=1) then (F_r y20.2 0 3).bind fun y22=>some ((GRule.mk ((((([]:List GRule)++l_)++[(GRule.mk [108,97,115,116] y2.1 2)]).getD ((y4.1).toNat) default).Name) ((((([]:List GRule)++l_)++[(GRule.mk [108,97,115,116] y2.1 2)]).getD ((y4.1).toNat) default).When) y22.1),y22.2) else bif decide (y20.1=2) then (F_r y20.2 (-1) 3).bind fun y23=>some ((GRule.mk ((((([]:List GRule)++l_)++[(GRule.mk [108,97,115,116] y2.1 2)]).getD ((y4.1).toNat) default).Name) (GTerm.mk (((((([]:List GRule)++l_)++[(GRule.mk [108,97,115,116] y2.1 2)]).getD ((y4.1).toNat) default).When).Op) (((((([]:List GRule)++l_)++[(GRule.mk [108,97,115,116] y2.1 2)]).getD ((y4.1).toNat) default).When).Text) y23.1 (((((([]:List GRule)++l_)++[(GRule.mk [108,97,115,116] y2.1 2)]).getD ((y4.1).toNat) default).When).Print) (((((([]:List GRule)++l_)++[(GRule.mk [108,97,115,116] y2.1 2)]).getD ((y4.1).toNat) default).When).Kids)) ((((([]:List GRule)++l_)++[(GRule.mk [108,97,115,116] y2.1 2)]).getD ((y4.1).toNat) default).Verdict)),y23.2) else bif decide (y20.1=3) then (F_4 y20.2 4).bind fun y24=>chk (inb y24.1 [[],[97,34,98],[120,32,121],[111,107]].length) (some ((GRule.mk ((((([]:List GRule)++l_)++[(GRule.mk [108,97,115,116] y2.1 2)]).getD ((y4.1).toNat) default).Name) (GTerm.mk (((((([]:List GRule)++l_)++[(GRule.mk [108,97,115,116] y2.1 2)]).getD ((y4.1).toNat) default).When).Op) ([[],[97,34,98],[120,32,121],[111,107]].getD ((y24.1).toNat) default) (((((([]:List GRule)++l_)++[(GRule.mk [108,97,115,116] y2.1 2)]).getD ((y4.1).toNat) default).When).Number) (((((([]:List GRule)++l_)++[(GRule.mk [108,97,115,116] y2.1 2)]).getD ((y4.1).toNat) default).When).Print) (((((([]:List GRule)++l_)++[(GRule.mk [108,97,115,116] y2.1 2)]).getD ((y4.1).toNat) default).When).Kids)) ((((([]:List GRule)++l_)++[(GRule.mk [108,97,115,116] y2.1 2)]).getD ((y4.1).toNat) default).Verdict)),y24.2)) else bif decide (y20.1=4) then (F_r y20.2 8 12).bind fun y25=>some ((GRule.mk ((((([]:List GRule)++l_)++[(GRule.mk [108,97,115,116] y2.1 2)]).getD ((y4.1).toNat) default).Name) (GTerm.mk y25.1 [] 0 0 [(((([]:List GRule)++l_)++[(GRule.mk [108,97,115,116] y2.1 2)]).getD ((y4.1).toNat) default).When]) ((((([]:List GRule)++l_)++[(GRule.mk [108,97,115,116] y2.1 2)]).getD ((y4.1).toNat) default).Verdict)),y25.2) else (F_4 y20.2 25).bind fun y27=>(loop F_2g (y27.1,((([]:List GRule)++l_)++[(GRule.mk [108,97,115,116] y2.1 2)]).getD ((y4.1).toNat) default)).bind fun r31=>some (r31,y27.2)) fun j18=>chk (inb y4.1 ((([]:List GRule)++l_)++[(GRule.mk [108,97,115,116] y2.1 2)]).length) (some (((([]:List GRule)++l_)++[(GRule.mk [108,97,115,116] y2.1 2)]).set ((y4.1).toNat) j18.1,j18.2)))))
@[irreducible] def mc_2g:MC :=
 (.seq (sR [oV 8 29,
 mo (.bin false .gtr (.t 29) (cI 0)) 30]
 (.cond (.t 30)
 .skip
 (.exit 1)))
 (.seq (.block 2
 (.reg [oF 1 7 33,
 mo (.ld (some 5) (.t 33)) 34,
 mo (.bslice 5 [(.t 34)]) 35,
 mo (.build [(.int .i64 0),(.str []),(.int .i64 0),(.int .u64 0),(.sl [])] [(0,1,(cI 9)),(4,1,(.t 35))]) 36,
 oF 1 7 37,
 ⟨.st 5 (.t 37) (.t 36),none,none⟩]))
 (.reg [oV 8 31,
 mo (.bin true .sub (.t 31) (cI 1)) 32,
 oV 32 8])))
@[irreducible] def mc_48:MC :=
 (sR [oV 5 75,
 oV 6 76,
 mo (.ld (some 7) (.t 7)) 77,
 mo (.iad 7 (.t 75) (.t 76)) 78,
 ⟨.st 7 (.t 78) (.t 77),none,none⟩]
 (sR [oV 5 79,
 oV 79 4]
 .ret))
def mc_1n:MC :=
 (sR [mo (.mv (.c (.sl []))) 4]
 (sR [mo (.bslice 7 []) 9,
 oV 1 10,
 mo (.app 7 88 (.t 9) (.t 10)) 11,
 oV 0 12,
 mo (.call (.f 21) [(.t 12),(cI 2)] [1000] []) 13,
 mo (.build [(.str []),(.int .i64 0),(.str []),(.int .i64 0),(.int .u64 0),(.sl []),(.int .i64 0)] [(0,1,(.c (.str [108,97,115,116]))),(1,5,(.t 13)),(6,1,(cI 2))]) 14,
 mo (.bslice 7 [(.t 14)]) 15,
 mo (.app 7 88 (.t 11) (.t 15)) 16,
 oV 16 5]
 (.seq (.note (.gc [0,5]) (.reg [oV 0 17,
 oV 5 18,
 mo (.len false (.t 18)) 19,
 mo (.call (.f 17) [(.t 17),(.t 19)] [1000] []) 20,
 oV 20 6]))
 (sR [oV 5 21,
 oV 6 22,
 mo (.iad 7 (.t 21) (.t 22)) 23,
 mo (.ld (some 7) (.t 23)) 24,
 mo (.alloc [(.str []),(.int .i64 0),(.str []),(.int .i64 0),(.int .u64 0),(.sl []),(.int .i64 0)]) 7,
 ⟨.st 7 (.t 7) (.t 24),none,none⟩]
 (.cut (sR [oV 0 25,
 mo (.call (.f 17) [(.t 25),(cI 6)] [1000] []) 26]
 (.block 0
 (sR [mo (.bin false .eql (.t 26) (cI 0)) 39,
 oV 39 38]
 (.cond (.t 38)
 (.note (.gc [0,5,6,7]) (.reg [mo (.bslice 1 [(.c (.str [])),(.c (.str [65])),(.c (.str [114,48])),(.c (.str [97,58,98]))]) 40,
 oV 0 41,
 mo (.call (.f 17) [(.t 41),(cI 4)] [1000] []) 42,
 mo (.iad 1 (.t 40) (.t 42)) 43,
 oL 43 44,
 oF 0 7 45,
 ⟨.st 1 (.t 45) (.t 44),none,none⟩]))
 (sR [mo (.bin false .eql (.t 26) (cI 1)) 47,
 oV 47 46]
 (.cond (.t 46)
 (.note (.gc [0,5,6,7]) (.reg [oV 0 48,
 mo (.call (.f 11) [(.t 48),(cI 0),(cI 3)] [1000] []) 49,
 oF 6 7 50,
 ⟨.st 1 (.t 50) (.t 49),none,none⟩]))
 (sR [mo (.bin false .eql (.t 26) (cI 2)) 52,
 oV 52 51]
 (.cond (.t 51)
 (.note (.gc [0,5,6,7]) (.reg [oV 0 53,
 mo (.call (.f 11) [(.t 53),(cI (-1)),(cI 3)] [1000] []) 54,
 oF 1 7 55,
 oF 2 55 56,
 ⟨.st 1 (.t 56) (.t 54),none,none⟩]))
 (sR [mo (.bin false .eql (.t 26) (cI 3)) 58,
 oV 58 57]
 (.cond (.t 57)
 (.note (.gc [0,5,6,7]) (.reg [mo (.bslice 1 [(.c (.str [])),(.c (.str [97,34,98])),(.c (.str [120,32,121])),(.c (.str [111,107]))]) 59,
 oV 0 60,
 mo (.call (.f 17) [(.t 60),(cI 4)] [1000] []) 61,
 mo (.iad 1 (.t 59) (.t 61)) 62,
 oL 62 63,
 oF 1 7 64,
 oF 1 64 65,
 ⟨.st 1 (.t 65) (.t 63),none,none⟩]))
 (sR [mo (.bin false .eql (.t 26) (cI 4)) 67,
 oV 67 66]
 (.cond (.t 66)
 (.note (.gc [0,5,6,7]) (.regD [oV 0 68,
 mo (.call (.f 11) [(.t 68),(cI 8),(cI 12)] [1000] []) 69,
 oF 1 7 70,
 mo (.ld (some 5) (.t 70)) 71,
 mo (.bslice 5 [(.t 71)]) 72,
 mo (.build [(.int .i64 0),(.str []),(.int .i64 0),(.int .u64 0),(.sl [])] [(0,1,(.t 69)),(4,1,(.t 72))]) 73,
 oF 1 7 74,
 ⟨.st 5 (.t 74) (.t 73),none,none⟩]
 [[],[0],[],[2],[3],[1,4],[0,1,2,3,4,5],[6,5,1,0,1,2,3,4,5]]
 [[],[0],[],[2],[2,3],[0,1,2,3,4],[0,1,2,3,4,5],[0,1,2,3,4,5,6]]))
 (.seq (.note (.gc [0,5,6,7]) (.reg [oV 0 27,
 mo (.call (.f 17) [(.t 27),(cI 25)] [1000] []) 28,
 oV 28 8]))
 (.block 1
 (.loop mc_2g)))))))))))))))
 mc_48)))))
theorem Wq_1n {t_:GTape} {l_:List GRule}:Cn Tryz.prog 24 [.ptr 1000 0,.sl (l_.map GRule.v)] [(1000,.cells [.sl (t_.L.map (V.int .i64)),.int .i64 t_.at_])] (F_1n t_ l_) (fun z=>.sl (z.1.map GRule.v)) (fun z=>[(1000,.cells [.sl (z.2.L.map (V.int .i64)),.int .i64 z.2.at_])]):=fun Q Q' h hQ=>by
 refine acallM mc_1n [.fz 4] [1000] [.t 4] Tryz.func24 fun M=>?_
 unfold F_1n at h
 unfold mc_1n
 replace h:=tY h
 refine tB ?_
 repeat' (first
 | (exact tZ)
 | ((first|refine oblg h ?_|refine roomG h ?_|refine inbG h ?_|refine fork h ?_ ?_|refine forkS h ?_ ?_)<;>clear h<;>intro hc h)
 | (obtain ⟨y,hy,h⟩:=h;(first|with_reducible first|have hw:=W_0 hy|have hw:=Wq_4.w hy|have hw:=Wq_r.w hy);replace hw:=tY hw;(first|refine M.sC hw ?_|refine M.sD hw ?_);clear hw hy;refine tB ?_)
 | (refine M.wh1 (b:=mc_2g) [5,6,7] [16,1000] (fun x=>[(8,.int .i64 x.1)]) (fun x=>[.o 7 (.cells [.str x.2.Name,.int .i64 x.2.When.Op,.str x.2.When.Text,.int .i64 x.2.When.Number,.int .u64 x.2.When.Print,.sl (x.2.When.Kids.map GTerm.v),.int .i64 x.2.Verdict])]) [.fzc 7] h ?_ ?_<;>first
 | (clear h;intro x Qn K hK1 h;unfold F_2g at h;unfold mc_2g;replace h:=tY h;refine tB ?_)
  |(clear h;(try refine tB ?_);exact tU0;done))
 | (refine M.jn1 (b:=mc_48) [5,6,7] [16] (fun y=>[]) (fun y=>[.o 7 (.cells [.str y.1.Name,.int .i64 y.1.When.Op,.str y.1.When.Text,.int .i64 y.1.When.Number,.int .u64 y.1.When.Print,.sl (y.1.When.Kids.map GTerm.v),.int .i64 y.1.Verdict]),.o 1000 (.cells [.sl (y.2.L.map (V.int .i64)),.int .i64 y.2.at_])]) [.fzc 7] h ?_ ?_<;>first
 | (clear h;intro Qn K hK2 h;replace h:=tY h;refine tB ?_)
  |(clear h;intro y h;unfold mc_48;replace h:=tY h;refine tB ?_))
 | ((first|refine hK1 _ ?_|refine hK2 _ ?_);(try refine tB ?_);refine ⟨_,h,?_⟩;exact tU0;done)
 | (refine tE4 GRule.v ?_ (by simp only [show ∀(a0:Str) (a1:GTerm) (a2:Int),V.agg [.str a0,.int .i64 a1.Op,.str a1.Text,.int .i64 a1.Number,.int .u64 a1.Print,.sl (a1.Kids.map GTerm.v),.int .i64 a2]=GRule.v ⟨a0,a1,a2⟩ from fun _ _ _=>rfl];repeat (first|exact IsMap.nil|apply IsMap.cons|apply IsMap.app)) (by simp only [List.length_append,List.length_cons,List.length_nil,Nat.zero_add];exact inb_toNat (by assumption));(first|rw [M.lok_compU]|rw [M.lokD_compU]|(simp only [V.cells];first|rw [M.lok_comp]|rw [M.lokD_comp]));refine tB ?_)
 | (refine tE4 GRule.v ?_ (by simp only [show ∀(a0:Str) (a1:Int) (a2:Str) (a3:Int) (a4:Int) (a5:List GTerm) (a6:Int),V.agg [.str a0,.int .i64 a1,.str a2,.int .i64 a3,.int .u64 a4,.sl (a5.map GTerm.v),.int .i64 a6]=GRule.v ⟨a0,⟨a1,a2,a3,a4,a5⟩,a6⟩ from fun _ _ _ _ _ _ _=>rfl];repeat (first|exact IsMap.nil|apply IsMap.cons|apply IsMap.app)) (by simp only [List.length_append,List.length_cons,List.length_nil,Nat.zero_add];exact inb_toNat (by assumption));(first|rw [M.lok_compU]|rw [M.lokD_compU]|(simp only [V.cells];first|rw [M.lok_comp]|rw [M.lokD_comp]));refine tB ?_)
 | (refine tE4 V.str ?_;(first|rw [M.lok_compU]|rw [M.lokD_compU]|(simp only [V.cells];first|rw [M.lok_comp]|rw [M.lokD_comp]));refine tB ?_)
 | (refine tE ?_;(first|rw [M.lok_compU]|rw [M.lokD_compU]);refine tB ?_)
 | (refine ⟨_,getE_mapset (by first|exact inb_toNat (by assumption)|exact inb_nat (by assumption)),?_⟩;(first|rw [M.lok_compU]|rw [M.lokD_compU]|(simp only [V.cells];first|rw [M.lok_comp]|rw [M.lokD_comp]));refine tB ?_)
 | (refine tA ?_)
 | fail)
noncomputable def FR_3:Nat→GTerm→Option Int
 | 0,_=>none
 | n+1,c_ =>
 (loop (fun (x37:Int×Int)=>(grp ((decide (x37.2<(c_.Kids.length:Int))&&decide (x37.1<1000))) fun b47=>bif b47 then chk (inb x37.2 c_.Kids.length) ((FR_3 n (c_.Kids.getD (x37.2).toNat default)).bind fun y49=>chk (in64 (x37.1+y49)) (chk (in64 (x37.2+1)) (some (.nx ((min 1000 (x37.1+y49)),(x37.2+1)))))) else some (.ex x37.1):Option (Fl (Int×Int) Int))) (1,0)).bind fun r50=>some r50
noncomputable def F_3 (c_:GTerm):Option Int:=lim fun n=>FR_3 n c_
@[irreducible] def mg_49:List MOp:=[gT 10 11 (.mv (.t 3)),
 gT 10 12 (.bin false .lss (.t 11) (cI 1000)),
 mo (.pick (.t 10) (.t 12) (.c (.bool false))) 13]
@[irreducible] def mc_4a:MC :=
 (.seq (.seq (.regI [.op (oV 4 5),
 .op (oF 4 1 6),
 .op (oL 6 7),
 .op (mo (.len false (.t 7)) 8),
 .op (mo (.bin false .lss (.t 5) (.t 8)) 9),
 .op (oV 9 10),
 .grp mg_49])
 (.cond (.t 13)
 .skip
 (.exit 0)))
 (.seq (.block 1
 (.reg [oV 3 16,
 oF 4 1 17,
 oL 17 18,
 oV 4 19,
 mo (.iad 5 (.t 18) (.t 19)) 20,
 mo (.ld (some 5) (.t 20)) 21,
 mo (.call (.f 45) [(.t 21)] [] []) 22,
 mo (.bin true .add (.t 16) (.t 22)) 23,
 mo (.mm false (cI 1000) (.t 23)) 24,
 oV 24 3]))
 (.note (.gc [1,3,4,11,12]) (.reg [oV 4 14,
 mo (.bin true .add (.t 14) (cI 1)) 15,
 oV 15 4]))))
def mc_3:MC :=
 (sR [mo (.box (.t 0)) 1,
 oC 0 2]
 (sR [oC 1 3]
 (.seq (sR [oC 0 4]
 (.block 0
 (.loop mc_4a)))
 (sR [oV 3 25,
 oV 25 2]
 .ret))))
theorem Wq_3 {n:Nat} (ih_law21_size:∀{c_:GTerm} {y:Int},FR_3 n c_=some y→ACall Tryz.prog 45 [GTerm.v c_] [] (fun r H=>r=.int .i64 y∧H=[])) (c_:GTerm) {Q:Int→Prop} {Q':V→Heap→Prop} (h:Ok (FR_3 (n+1) c_) Q) (hQ:∀z,Q z→Q' (.int .i64 z) []):ACall Tryz.prog 45 [GTerm.v c_] [] Q':=by
 refine acallM mc_3 [] [] [.t 2] Tryz.func45 fun M=>?_
 simp only [FR_3] at h
 unfold mc_3
 replace h:=tY h
 refine tB ?_
 repeat' (first
 | (exact tZ)
 | ((first|refine oblg h ?_|refine roomG h ?_|refine fork h ?_ ?_|refine forkS h ?_ ?_)<;>clear h<;>intro hc h)
 | (obtain ⟨y,hy,h⟩:=h;have hw:=ih_law21_size hy;replace hw:=tY hw;(first|refine M.sC hw ?_|refine M.sD hw ?_);clear hw hy;refine tB ?_)
 | (refine M.gv1 (ms:=mg_49) 13 [11,12] h ?_ ?_<;>first
 | (clear h;intro K hK1;unfold mg_49;refine tB ?_)
 | (clear h;intro b h;replace h:=tY h;refine tB ?_))
 | (refine M.wh1 (b:=mc_4a) [1] [1] (fun x=>[(3,.int .i64 x.1),(4,.int .i64 x.2)]) (fun x=>[]) [] h ?_ ?_<;>first
 | (clear h;intro x Qn K hK2 h;unfold mc_4a;replace h:=tY h;refine tB ?_)
  |(clear h;(try refine tB ?_);exact tU0;done))
 | (refine hK1 _ ?_;exact tU;done)
 | (refine hK2 _ ?_;(try refine tB ?_);refine ⟨_,h,?_⟩;exact tU0;done)
 | (refine bfork (fun hc=>?_) (fun hc=>?_))
 | (refine tE ?_;(first|rw [M.lok_compU]|rw [M.lokD_compU]);refine tB ?_)
 | (refine tA ?_)
 | fail)
theorem WG_3:∀n,(∀{c_:GTerm} {y:Int},FR_3 n c_=some y→ACall Tryz.prog 45 [GTerm.v c_] [] (fun r H=>r=.int .i64 y∧H=[]))
 | 0=>fun hy=>(by simp only [FR_3] at hy;cases hy)
 | n+1=>by
  have ih_law21_size:=@WG_3 n
  exact fun hy=>Wq_3 ih_law21_size _ (Q:=(·=_)) ⟨_,hy,rfl⟩ fun|_,rfl=>⟨rfl,rfl⟩
theorem W_3:∀{c_:GTerm} {y:Int},F_3 c_=some y→ACall Tryz.prog 45 [GTerm.v c_] [] (fun r H=>r=.int .i64 y∧H=[]):=fun hy=>by
 obtain ⟨n,hn⟩:=lim_inv hy
 exact (WG_3 n) hn
noncomputable def F_2h (l_:List GRule) (x29:Int):Option (Fl Int (Sum Unit Bool)) :=
 bif decide (x29<(l_.length:Int)) then chk (inb x29 l_.length) ((F_3 ((l_.getD (x29).toNat default).When)).bind fun y37=>bif decide (200<y37) then some (.ex (.inr false)) else chk (in64 (x29+1)) (some (.nx (x29+1)))) else some (.ex (.inl ()))
noncomputable def F_1o (l_:List GRule):Option Bool :=
 bif decide (50<(l_.length:Int)) then some false else (loop (F_2h l_) 0).bind fun r38=>Sum.elim (fun u39=>some true) (fun u40=>some u40) r38
@[irreducible] def mc_2h:MC :=
 (.seq (sR [oV 3 7,
 oV 0 8,
 mo (.len false (.t 8)) 9,
 mo (.bin false .lss (.t 7) (.t 9)) 10]
 (.cond (.t 10)
 .skip
 (.exit 0)))
 (.seq (.block 1
 (sR [oV 0 13,
 oV 3 14,
 mo (.iad 7 (.t 13) (.t 14)) 15,
 oF 1 15 16,
 mo (.ld (some 5) (.t 16)) 17,
 mo (.call (.f 45) [(.t 17)] [] []) 18,
 mo (.bin false .gtr (.t 18) (cI 200)) 19]
 (.cond (.t 19)
 (sR [mo (.mv (.c (.bool false))) 2]
 .ret)
 .skip)))
 (.note (.gc [0,3]) (.reg [oV 3 11,
 mo (.bin true .add (.t 11) (cI 1)) 12,
 oV 12 3]))))
def mc_1o:MC :=
 (sR [mo (.mv (.c (.bool false))) 2]
 (.seq (sR [oV 0 4,
 mo (.len false (.t 4)) 5,
 mo (.bin false .gtr (.t 5) (cI 50)) 6]
 (.cond (.t 6)
 (sR [mo (.mv (.c (.bool false))) 2]
 .ret)
 .skip))
 (.seq (sR [oC 0 3]
 (.block 0
 (.loop mc_2h)))
 (sR [mo (.mv (.c (.bool true))) 2]
 .ret))))
theorem Wq_1o {l_:List GRule}:Cn Tryz.prog 25 [.sl (l_.map GRule.v)] [] (F_1o l_) (fun z=>.bool z) (fun z=>[]):=fun Q Q' h hQ=>by
 refine acallM mc_1o [] [] [.t 2] Tryz.func25 fun M=>?_
 unfold F_1o at h
 unfold mc_1o
 replace h:=tY h
 refine tB ?_
 repeat' (first
 | (exact tZ)
 | ((first|refine oblg h ?_|refine roomG h ?_|refine fork h ?_ ?_|refine forkS h ?_ ?_)<;>clear h<;>intro hc h)
 | (obtain ⟨y,hy,h⟩:=h;have hw:=W_3 hy;replace hw:=tY hw;(first|refine M.sC hw ?_|refine M.sD hw ?_);clear hw hy;refine tB ?_)
 | (refine M.wh1 (b:=mc_2h) [0] [] (fun x=>[(3,.int .i64 x)]) (fun x=>[]) [] h ?_ ?_<;>first
 | (clear h;intro x Qn K hK1 h;unfold F_2h at h;unfold mc_2h;replace h:=tY h;refine tB ?_)
  |(clear h;(try refine tB ?_);exact tU0;done))
 | (refine hK1 _ ?_;(try refine tB ?_);refine ⟨_,h,?_⟩;exact tU0;done)
 | (refine tE ?_;(first|rw [M.lok_compU]|rw [M.lokD_compU]);refine tB ?_)
 | (refine tA ?_)
 | fail)
noncomputable def F_22 (s_:Str) (x59:Int):Option (Fl Int (Sum Unit Bool)) :=
 bif decide (x59<(s_.length:Int)) then jn (α:=Fl Unit Bool) (chk (inb x59 s_.length) (bif decide (((s_.getD (x59).toNat 0).toNat:Int)<97) then jn (α:=Str×Int×UInt8×Bool×Bool×Bool×Bool) (chk (inb x59 s_.length) (bif decide (((s_.getD (x59).toNat 0).toNat:Int)<48) then some (s_,x59,(s_.getD (x59).toNat 0),decide (((s_.getD (x59).toNat 0).toNat:Int)<48),true,true,true) else chk (inb x59 s_.length) (some (s_,x59,(s_.getD (x59).toNat 0),decide (((s_.getD (x59).toNat 0).toNat:Int)<48),false,decide (57<((s_.getD (x59).toNat 0).toNat:Int)),decide (57<((s_.getD (x59).toNat 0).toNat:Int)))))) fun j83=>jn (α:=Bool) (bif j83.2.2.2.2.2.2 then chk (inb x59 s_.length) (some (!decide (((s_.getD (x59).toNat 0).toNat:Int)=45))) else some false) fun j84=>bif j84 then some (.ex false) else some (.nx ()) else chk (inb x59 s_.length) (jn (α:=Bool) (bif decide (122<((s_.getD (x59).toNat 0).toNat:Int)) then chk (inb x59 s_.length) (bif decide (((s_.getD (x59).toNat 0).toNat:Int)<48) then some true else chk (inb x59 s_.length) (some (decide (57<((s_.getD (x59).toNat 0).toNat:Int))))) else some false) fun j85=>jn (α:=Bool) (bif j85 then chk (inb x59 s_.length) (some (!decide (((s_.getD (x59).toNat 0).toNat:Int)=45))) else some false) fun j86=>bif j86 then some (.ex false) else some (.nx ())))) fun o=>o.elim (fun j78=>chk (in64 (x59+1)) (some (.nx (x59+1)))) (fun r87=>some (.ex (.inr r87))) else some (.ex (.inl ()))
noncomputable def F_1p (s_:Str):Option Bool :=
 (loop (F_22 s_) 0).bind fun r88=>Sum.elim (fun u89=>grp ((decide (1≤(s_.length:Int))&&decide ((s_.length:Int)≤40))) fun b92=>some b92) (fun u90=>some u90) r88
@[irreducible] def mg_2m:List MOp:=[gT 20 21 (.mv (.t 0)),
 gT 20 22 (.mv (.t 3)),
 gT 20 23 (.idx (.t 21) (.t 22)),
 gT 20 24 (.bin false .lss (.t 23) (.c (.int .u8 48))),
 gT 20 25 (.mv (.t 24)),
 gF 25 26 (.mv (.t 0)),
 gF 25 27 (.mv (.t 3)),
 gF 25 28 (.idx (.t 26) (.t 27)),
 gF 25 29 (.bin false .gtr (.t 28) (.c (.int .u8 57))),
 gT 20 30 (.pick (.t 25) (.c (.bool true)) (.t 29)),
 mo (.pick (.t 20) (.t 30) (.c (.bool false))) 31]
@[irreducible] def mg_2n:List MOp:=[gT 32 33 (.mv (.t 0)),
 gT 32 34 (.mv (.t 3)),
 gT 32 35 (.idx (.t 33) (.t 34)),
 gT 32 36 (.bin false .neq (.t 35) (.c (.int .u8 45))),
 mo (.pick (.t 32) (.t 36) (.c (.bool false))) 37]
@[irreducible] def mc_4b:MC :=
 (.reg [oV 3 8,
 mo (.bin true .add (.t 8) (cI 1)) 9,
 oV 9 3])
@[irreducible] def mc_22:MC :=
 (.seq (sR [oV 3 4,
 oV 0 5,
 mo (.len true (.t 5)) 6,
 mo (.bin false .lss (.t 4) (.t 6)) 7]
 (.cond (.t 7)
 .skip
 (.exit 0)))
 (.cut (.block 1
 (.seq (.regI [.op (oV 0 10),
 .op (oV 3 11),
 .op (mo (.idx (.t 10) (.t 11)) 12),
 .op (mo (.bin false .lss (.t 12) (.c (.int .u8 97))) 13),
 .op (oV 13 14),
 .op (gF 14 15 (.mv (.t 0))),
 .op (gF 14 16 (.mv (.t 3))),
 .op (gF 14 17 (.idx (.t 15) (.t 16))),
 .op (gF 14 18 (.bin false .gtr (.t 17) (.c (.int .u8 122)))),
 .op (mo (.pick (.t 14) (.c (.bool true)) (.t 18)) 19),
 .op (oV 19 20),
 .grp mg_2m,
 .op (oV 31 32),
 .grp mg_2n])
 (.cond (.t 37)
 (sR [mo (.mv (.c (.bool false))) 2]
 .ret)
 .skip)))
 mc_4b))
@[irreducible] def mg_4c:List MOp:=[gT 41 42 (.mv (.t 0)),
 gT 41 43 (.len true (.t 42)),
 gT 41 44 (.bin false .leq (.t 43) (cI 40)),
 mo (.pick (.t 41) (.t 44) (.c (.bool false))) 45]
def mc_1p:MC :=
 (sR [mo (.mv (.c (.bool false))) 2]
 (.seq (sR [oC 0 3]
 (.block 0
 (.loop mc_22)))
 (.seq (.regI [.op (oV 0 38),
 .op (mo (.len true (.t 38)) 39),
 .op (mo (.bin false .geq (.t 39) (cI 1)) 40),
 .op (oV 40 41),
 .grp mg_4c,
 .op (oV 45 2)])
 .ret)))
theorem Wq_1p {s_:Str}:Cn Tryz.prog 49 [.str s_] [] (F_1p s_) (fun z=>.bool z) (fun z=>[]):=fun Q Q' h hQ=>by
 refine acallM mc_1p [] [] [.t 2] Tryz.func49 fun M=>?_
 unfold F_1p at h
 unfold mc_1p
 replace h:=tY h
 refine tB ?_
 repeat' (first
 | (exact tZ)
 | ((first|refine oblg h ?_|refine roomG h ?_|refine fork h ?_ ?_|refine forkS h ?_ ?_)<;>clear h<;>intro hc h)
 | (refine M.gj1 (ms:=mg_2n) [0,3,21,22,23,24,25,30] [] (fun y=>[(37,.bool y)]) (fun y=>[]) h ?_ ?_<;>first
 | (clear h;intro Qn K hK1 h;unfold mg_2n;replace h:=tY h;refine tB ?_)
  |(clear h;intro y h;replace h:=tY h;refine tB ?_))
 | (refine M.gj1 (ms:=mg_2m) [0,3] [] (fun y=>[(21,.str y.1),(22,.int .i64 y.2.1),(23,byteV y.2.2.1),(24,.bool y.2.2.2.1),(25,.bool y.2.2.2.2.1),(30,.bool y.2.2.2.2.2.1),(31,.bool y.2.2.2.2.2.2)]) (fun y=>[]) h ?_ ?_<;>first
 | (clear h;intro Qn K hK2 h;unfold mg_2m;replace h:=tY h;refine tB ?_)
  |(clear h;intro y h;replace h:=tY h;refine tB ?_))
 | (refine M.gj1 (ms:=mg_2n) [0,3,15,16,17,18] [] (fun y=>[(37,.bool y)]) (fun y=>[]) h ?_ ?_<;>first
 | (clear h;intro Qn K hK3 h;unfold mg_2n;replace h:=tY h;refine tB ?_)
  |(clear h;intro y h;replace h:=tY h;refine tB ?_))
 | (refine M.gj1 (ms:=mg_2m) [0,3,15,16,17,18] [] (fun y=>[(31,.bool y)]) (fun y=>[]) h ?_ ?_<;>first
 | (clear h;intro Qn K hK4 h;unfold mg_2m;replace h:=tY h;refine tB ?_)
  |(clear h;intro y h;replace h:=tY h;refine tB ?_))
 | (refine M.jnE (b:=mc_4b) [0,3] [] (fun y=>[]) (fun y=>[]) [] h ?_ ?_<;>first
 | (clear h;intro Qn K hK5 h;replace h:=tY h;refine tB ?_)
  |(clear h;intro y h;unfold mc_4b;replace h:=tY h;refine tB ?_))
 | (refine M.wh1 (b:=mc_22) [0] [] (fun x=>[(3,.int .i64 x)]) (fun x=>[]) [] h ?_ ?_<;>first
 | (clear h;intro x Qn K hK6 h;unfold F_22 at h;unfold mc_22;replace h:=tY h;refine tB ?_)
  |(clear h;(try refine tB ?_);exact tU0;done))
 | (refine M.gv1 (ms:=mg_4c) 45 [42,43,44] h ?_ ?_<;>first
 | (clear h;intro K hK7;unfold mg_4c;refine tB ?_)
 | (clear h;intro b h;replace h:=tY h;refine tB ?_))
 | ((first|refine hK1 _ ?_|refine hK2 _ ?_|refine hK3 _ ?_|refine hK4 _ ?_|refine hK5 _ ?_|refine hK6 _ ?_);(try refine tB ?_);refine ⟨_,h,?_⟩;exact tU0;done)
 | (refine hK7 _ ?_;exact tU;done)
 | (refine bfork (fun hc=>?_) (fun hc=>?_))
 | (refine tE ?_;(first|rw [M.lok_compU]|rw [M.lokD_compU]);refine tB ?_)
 | (refine tA ?_)
 | fail)
noncomputable def FR_c:Nat→GTerm→Int→Option Int
 | 0,_,_=>none
 | n+1,c_,have_ =>
 chk (in64 (have_+1)) ((loop (fun (x37:Int×Int)=>(grp ((decide (x37.2<(c_.Kids.length:Int))&&decide (x37.1≤60))) fun b47=>bif b47 then chk (inb x37.2 c_.Kids.length) ((FR_c n (c_.Kids.getD (x37.2).toNat default) x37.1).bind fun y49=>chk (in64 (x37.2+1)) (some (.nx (y49,(x37.2+1))))) else some (.ex x37.1):Option (Fl (Int×Int) Int))) ((have_+1),0)).bind fun r50=>some r50)
noncomputable def F_c (c_:GTerm) (have_:Int):Option Int:=lim fun n=>FR_c n c_ have_
@[irreducible] def mg_4d:List MOp:=[gT 13 14 (.mv (.t 1)),
 gT 13 15 (.bin false .leq (.t 14) (cI 60)),
 mo (.pick (.t 13) (.t 15) (.c (.bool false))) 16]
@[irreducible] def mc_4e:MC :=
 (.seq (.seq (.regI [.op (oV 5 8),
 .op (oF 4 2 9),
 .op (oL 9 10),
 .op (mo (.len false (.t 10)) 11),
 .op (mo (.bin false .lss (.t 8) (.t 11)) 12),
 .op (oV 12 13),
 .grp mg_4d])
 (.cond (.t 16)
 .skip
 (.exit 0)))
 (.seq (.block 1
 (.reg [oF 4 2 19,
 oL 19 20,
 oV 5 21,
 mo (.iad 5 (.t 20) (.t 21)) 22,
 mo (.ld (some 5) (.t 22)) 23,
 oV 1 24,
 mo (.call (.f 84) [(.t 23),(.t 24)] [] []) 25,
 oV 25 1]))
 (.note (.gc [1,2,5,14,15]) (.reg [oV 5 17,
 mo (.bin true .add (.t 17) (cI 1)) 18,
 oV 18 5]))))
def mc_c:MC :=
 (sR [mo (.box (.t 0)) 2,
 oC 0 4]
 (sR [oV 1 6,
 mo (.bin true .add (.t 6) (cI 1)) 7,
 oV 7 1]
 (.seq (sR [oC 0 5]
 (.block 0
 (.loop mc_4e)))
 (sR [oV 1 26,
 oV 26 4]
 .ret))))
theorem Wq_c {n:Nat} (ih_ref21_count:∀{c_:GTerm} {have_:Int} {y:Int},FR_c n c_ have_=some y→ACall Tryz.prog 84 [GTerm.v c_,.int .i64 have_] [] (fun r H=>r=.int .i64 y∧H=[])) (c_:GTerm) (have_:Int) {Q:Int→Prop} {Q':V→Heap→Prop} (h:Ok (FR_c (n+1) c_ have_) Q) (hQ:∀z,Q z→Q' (.int .i64 z) []):ACall Tryz.prog 84 [GTerm.v c_,.int .i64 have_] [] Q':=by
 refine acallM mc_c [] [] [.t 4] Tryz.func84 fun M=>?_
 simp only [FR_c] at h
 unfold mc_c
 replace h:=tY h
 refine tB ?_
 repeat' (first
 | (exact tZ)
 | ((first|refine oblg h ?_|refine roomG h ?_|refine fork h ?_ ?_|refine forkS h ?_ ?_)<;>clear h<;>intro hc h)
 | (obtain ⟨y,hy,h⟩:=h;have hw:=ih_ref21_count hy;replace hw:=tY hw;(first|refine M.sC hw ?_|refine M.sD hw ?_);clear hw hy;refine tB ?_)
 | (refine M.gv1 (ms:=mg_4d) 16 [14,15] h ?_ ?_<;>first
 | (clear h;intro K hK1;unfold mg_4d;refine tB ?_)
 | (clear h;intro b h;replace h:=tY h;refine tB ?_))
 | (refine M.wh1 (b:=mc_4e) [2] [2] (fun x=>[(1,.int .i64 x.1),(5,.int .i64 x.2)]) (fun x=>[]) [] h ?_ ?_<;>first
 | (clear h;intro x Qn K hK2 h;unfold mc_4e;replace h:=tY h;refine tB ?_)
  |(clear h;(try refine tB ?_);exact tU0;done))
 | (refine hK1 _ ?_;exact tU;done)
 | (refine hK2 _ ?_;(try refine tB ?_);refine ⟨_,h,?_⟩;exact tU0;done)
 | (refine bfork (fun hc=>?_) (fun hc=>?_))
 | (refine tE ?_;(first|rw [M.lok_compU]|rw [M.lokD_compU]);refine tB ?_)
 | (refine tA ?_)
 | fail)
theorem WG_c:∀n,(∀{c_:GTerm} {have_:Int} {y:Int},FR_c n c_ have_=some y→ACall Tryz.prog 84 [GTerm.v c_,.int .i64 have_] [] (fun r H=>r=.int .i64 y∧H=[]))
 | 0=>fun hy=>(by simp only [FR_c] at hy;cases hy)
 | n+1=>by
  have ih_ref21_count:=@WG_c n
  exact fun hy=>Wq_c ih_ref21_count _ _ (Q:=(·=_)) ⟨_,hy,rfl⟩ fun|_,rfl=>⟨rfl,rfl⟩
theorem W_c:∀{c_:GTerm} {have_:Int} {y:Int},F_c c_ have_=some y→ACall Tryz.prog 84 [GTerm.v c_,.int .i64 have_] [] (fun r H=>r=.int .i64 y∧H=[]):=fun hy=>by
 obtain ⟨n,hn⟩:=lim_inv hy
 exact (WG_c n) hn
noncomputable def FR_d:Nat→GTerm→Option Int
 | 0,_=>none
 | n+1,c_ =>
 (loop (fun (x17:Int×Int)=>(bif decide (x17.2<(c_.Kids.length:Int)) then chk (inb x17.2 c_.Kids.length) ((FR_d n (c_.Kids.getD (x17.2).toNat default)).bind fun y21=>chk (in64 (x17.2+1)) (some (.nx ((max x17.1 y21),(x17.2+1))))) else some (.ex x17.1):Option (Fl (Int×Int) Int))) (0,0)).bind fun r22=>chk (in64 (r22+1)) (some (r22+1))
noncomputable def F_d (c_:GTerm):Option Int:=lim fun n=>FR_d n c_
@[irreducible] def mc_4f:MC :=
 (.seq (sR [oV 4 5,
 oF 4 1 6,
 oL 6 7,
 mo (.len false (.t 7)) 8,
 mo (.bin false .lss (.t 5) (.t 8)) 9]
 (.cond (.t 9)
 .skip
 (.exit 0)))
 (.seq (.block 1
 (.reg [oV 3 12,
 oF 4 1 13,
 oL 13 14,
 oV 4 15,
 mo (.iad 5 (.t 14) (.t 15)) 16,
 mo (.ld (some 5) (.t 16)) 17,
 mo (.call (.f 85) [(.t 17)] [] []) 18,
 mo (.mm true (.t 12) (.t 18)) 19,
 oV 19 3]))
 (.note (.gc [1,3,4]) (.reg [oV 4 10,
 mo (.bin true .add (.t 10) (cI 1)) 11,
 oV 11 4]))))
def mc_d:MC :=
 (sR [mo (.box (.t 0)) 1,
 oC 0 2]
 (sR [oC 0 3]
 (.seq (sR [oC 0 4]
 (.block 0
 (.loop mc_4f)))
 (sR [oV 3 20,
 mo (.bin true .add (.t 20) (cI 1)) 21,
 oV 21 2]
 .ret))))
theorem Wq_d {n:Nat} (ih_ref21_depth:∀{c_:GTerm} {y:Int},FR_d n c_=some y→ACall Tryz.prog 85 [GTerm.v c_] [] (fun r H=>r=.int .i64 y∧H=[])) (c_:GTerm) {Q:Int→Prop} {Q':V→Heap→Prop} (h:Ok (FR_d (n+1) c_) Q) (hQ:∀z,Q z→Q' (.int .i64 z) []):ACall Tryz.prog 85 [GTerm.v c_] [] Q':=by
 refine acallM mc_d [] [] [.t 2] Tryz.func85 fun M=>?_
 simp only [FR_d] at h
 unfold mc_d
 replace h:=tY h
 refine tB ?_
 repeat' (first
 | (exact tZ)
 | ((first|refine oblg h ?_|refine roomG h ?_|refine fork h ?_ ?_|refine forkS h ?_ ?_)<;>clear h<;>intro hc h)
 | (obtain ⟨y,hy,h⟩:=h;have hw:=ih_ref21_depth hy;replace hw:=tY hw;(first|refine M.sC hw ?_|refine M.sD hw ?_);clear hw hy;refine tB ?_)
 | (refine M.wh1 (b:=mc_4f) [1] [1] (fun x=>[(3,.int .i64 x.1),(4,.int .i64 x.2)]) (fun x=>[]) [] h ?_ ?_<;>first
 | (clear h;intro x Qn K hK1 h;unfold mc_4f;replace h:=tY h;refine tB ?_)
  |(clear h;(try refine tB ?_);exact tU0;done))
 | (refine hK1 _ ?_;(try refine tB ?_);refine ⟨_,h,?_⟩;exact tU0;done)
 | (refine tE ?_;(first|rw [M.lok_compU]|rw [M.lokD_compU]);refine tB ?_)
 | (refine tA ?_)
 | fail)
theorem WG_d:∀n,(∀{c_:GTerm} {y:Int},FR_d n c_=some y→ACall Tryz.prog 85 [GTerm.v c_] [] (fun r H=>r=.int .i64 y∧H=[]))
 | 0=>fun hy=>(by simp only [FR_d] at hy;cases hy)
 | n+1=>by
  have ih_ref21_depth:=@WG_d n
  exact fun hy=>Wq_d ih_ref21_depth _ (Q:=(·=_)) ⟨_,hy,rfl⟩ fun|_,rfl=>⟨rfl,rfl⟩
theorem W_d:∀{c_:GTerm} {y:Int},F_d c_=some y→ACall Tryz.prog 85 [GTerm.v c_] [] (fun r H=>r=.int .i64 y∧H=[]):=fun hy=>by
 obtain ⟨n,hn⟩:=lim_inv hy
 exact (WG_d n) hn
noncomputable def F_23 (s_:Str) (x9:Int):Option (Fl Int (Sum Unit Bool)) :=
 bif decide (x9<(s_.length:Int)) then chk (inb x9 s_.length) (bif decide (((s_.getD (x9).toNat 0).toNat:Int)<33) then some (.ex (.inr false)) else chk (inb x9 s_.length) (bif decide (126<((s_.getD (x9).toNat 0).toNat:Int)) then some (.ex (.inr false)) else chk (inb x9 s_.length) (bif decide (((s_.getD (x9).toNat 0).toNat:Int)=34) then some (.ex (.inr false)) else chk (in64 (x9+1)) (some (.nx (x9+1)))))) else some (.ex (.inl ()))
noncomputable def F_1q (s_:Str):Option Bool :=
 (loop (F_23 s_) 0).bind fun r10=>Sum.elim (fun u11=>grp ((decide (1≤(s_.length:Int))&&decide ((s_.length:Int)≤40))) fun b14=>some b14) (fun u12=>some u12) r10
@[irreducible] def mc_23:MC :=
 (.seq (sR [oV 3 4,
 oV 0 5,
 mo (.len true (.t 5)) 6,
 mo (.bin false .lss (.t 4) (.t 6)) 7]
 (.cond (.t 7)
 .skip
 (.exit 0)))
 (.seq (.block 1
 (sR [oV 0 10,
 oV 3 11,
 mo (.idx (.t 10) (.t 11)) 12,
 mo (.bin false .lss (.t 12) (.c (.int .u8 33))) 13,
 oV 13 14,
 gF 14 15 (.mv (.t 0)),
 gF 14 16 (.mv (.t 3)),
 gF 14 17 (.idx (.t 15) (.t 16)),
 gF 14 18 (.bin false .gtr (.t 17) (.c (.int .u8 126))),
 mo (.pick (.t 14) (.c (.bool true)) (.t 18)) 19,
 oV 19 20,
 gF 20 21 (.mv (.t 0)),
 gF 20 22 (.mv (.t 3)),
 gF 20 23 (.idx (.t 21) (.t 22)),
 gF 20 24 (.bin false .eql (.t 23) (.c (.int .u8 34))),
 mo (.pick (.t 20) (.c (.bool true)) (.t 24)) 25]
 (.cond (.t 25)
 (sR [mo (.mv (.c (.bool false))) 2]
 .ret)
 .skip)))
 (.note (.gc [0,3,15,16,17,18,21,22,23,24,30,31,32]) (.reg [oV 3 8,
 mo (.bin true .add (.t 8) (cI 1)) 9,
 oV 9 3]))))
@[irreducible] def mg_4g:List MOp:=[gT 29 30 (.mv (.t 0)),
 gT 29 31 (.len true (.t 30)),
 gT 29 32 (.bin false .leq (.t 31) (cI 40)),
 mo (.pick (.t 29) (.t 32) (.c (.bool false))) 33]
def mc_1q:MC :=
 (sR [mo (.mv (.c (.bool false))) 2]
 (.seq (sR [oC 0 3]
 (.block 0
 (.loop mc_23)))
 (.seq (.regI [.op (oV 0 26),
 .op (mo (.len true (.t 26)) 27),
 .op (mo (.bin false .geq (.t 27) (cI 1)) 28),
 .op (oV 28 29),
 .grp mg_4g,
 .op (oV 33 2)])
 .ret)))
theorem Wq_1q {s_:Str}:Cn Tryz.prog 116 [.str s_] [] (F_1q s_) (fun z=>.bool z) (fun z=>[]):=fun Q Q' h hQ=>by
 refine acallM mc_1q [] [] [.t 2] Tryz.func116 fun M=>?_
 unfold F_1q at h
 unfold mc_1q
 replace h:=tY h
 refine tB ?_
 repeat' (first
 | (exact tZ)
 | ((first|refine oblg h ?_|refine roomG h ?_|refine fork h ?_ ?_|refine forkS h ?_ ?_)<;>clear h<;>intro hc h)
 | (refine M.wh1 (b:=mc_23) [0] [] (fun x=>[(3,.int .i64 x)]) (fun x=>[]) [] h ?_ ?_<;>first
 | (clear h;intro x Qn K hK1 h;unfold F_23 at h;unfold mc_23;replace h:=tY h;refine tB ?_)
  |(clear h;(try refine tB ?_);exact tU0;done))
 | (refine M.gv1 (ms:=mg_4g) 33 [30,31,32] h ?_ ?_<;>first
 | (clear h;intro K hK2;unfold mg_4g;refine tB ?_)
 | (clear h;intro b h;replace h:=tY h;refine tB ?_))
 | (refine hK1 _ ?_;(try refine tB ?_);refine ⟨_,h,?_⟩;exact tU0;done)
 | (refine hK2 _ ?_;exact tU;done)
 | (refine bfork (fun hc=>?_) (fun hc=>?_))
 | (refine tE ?_;(first|rw [M.lok_compU]|rw [M.lokD_compU]);refine tB ?_)
 | (refine tA ?_)
 | fail)
noncomputable def FR_e:Nat→GTerm→Option Bool
 | 0,_=>none
 | n+1,c_ =>
 jn (α:=Bool) (jn (α:=Bool) (bif decide (c_.Op=1) then some true else bif decide (c_.Op=2) then some true else some (decide (c_.Op=3))) fun j21=>bif j21 then (F_1q c_.Text).bind fun y22=>grp ((y22&&decide (c_.Number=0))) fun b23=>grp ((b23&&decide (c_.Print=0))) fun b24=>grp ((b24&&decide ((c_.Kids.length:Int)=0))) fun b25=>some b25 else jn (α:=Bool) (bif decide (c_.Op=4) then some true else bif decide (c_.Op=5) then some true else bif decide (c_.Op=6) then some true else some (decide (c_.Op=8))) fun j26=>bif j26 then grp ((decide (c_.Text=[])&&decide (0≤c_.Number))) fun b27=>grp ((b27&&decide (c_.Number≤1099511627776))) fun b28=>grp ((b28&&decide (c_.Print=0))) fun b29=>grp ((b29&&decide ((c_.Kids.length:Int)=0))) fun b30=>some b30 else bif decide (c_.Op=7) then grp ((decide (c_.Text=[])&&decide (c_.Number=0))) fun b31=>grp ((b31&&decide ((c_.Kids.length:Int)=0))) fun b32=>some b32 else bif decide (c_.Op=9) then grp ((decide (c_.Text=[])&&decide (c_.Number=0))) fun b33=>grp ((b33&&decide (c_.Print=0))) fun b34=>grp ((b34&&decide ((c_.Kids.length:Int)=1))) fun b35=>some b35 else jn (α:=Bool) (bif decide (c_.Op=10) then some true else some (decide (c_.Op=11))) fun j36=>bif j36 then grp ((decide (c_.Text=[])&&decide (c_.Number=0))) fun b37=>grp ((b37&&decide (c_.Print=0))) fun b38=>grp ((b38&&decide (2≤(c_.Kids.length:Int)))) fun b39=>some b39 else some false) fun j20=>(loop (fun (x76:Bool×Int)=>(grp ((decide (x76.2<(c_.Kids.length:Int))&&x76.1)) fun b86=>bif b86 then chk (inb x76.2 c_.Kids.length) ((FR_e n (c_.Kids.getD (x76.2).toNat default)).bind fun y88=>chk (in64 (x76.2+1)) (some (.nx (y88,(x76.2+1))))) else some (.ex x76.1):Option (Fl (Bool×Int) Bool))) (j20,0)).bind fun r89=>some r89
noncomputable def F_e (c_:GTerm):Option Bool:=lim fun n=>FR_e n c_
@[irreducible] def mg_4h:List MOp:=[gT 14 15 (.fad 2 (.t 1)),
 gT 14 16 (.ld none (.t 15)),
 gT 14 17 (.bin false .eql (.t 16) (cI 0)),
 mo (.pick (.t 14) (.t 17) (.c (.bool false))) 18]
@[irreducible] def mg_4i:List MOp:=[gT 19 20 (.fad 3 (.t 1)),
 gT 19 21 (.ld none (.t 20)),
 gT 19 22 (.bin false .eql (.t 21) (.c (.int .u64 0))),
 mo (.pick (.t 19) (.t 22) (.c (.bool false))) 23]
@[irreducible] def mg_4j:List MOp:=[gT 24 25 (.fad 4 (.t 1)),
 gT 24 26 (.ld none (.t 25)),
 gT 24 27 (.len false (.t 26)),
 gT 24 28 (.bin false .eql (.t 27) (cI 0)),
 mo (.pick (.t 24) (.t 28) (.c (.bool false))) 29]
@[irreducible] def mg_4k:List MOp:=[gT 38 39 (.fad 2 (.t 1)),
 gT 38 40 (.ld none (.t 39)),
 gT 38 41 (.bin false .geq (.t 40) (cI 0)),
 mo (.pick (.t 38) (.t 41) (.c (.bool false))) 42]
@[irreducible] def mg_4l:List MOp:=[gT 43 44 (.fad 2 (.t 1)),
 gT 43 45 (.ld none (.t 44)),
 gT 43 46 (.bin false .leq (.t 45) (cI 1099511627776)),
 mo (.pick (.t 43) (.t 46) (.c (.bool false))) 47]
@[irreducible] def mg_4m:List MOp:=[gT 48 49 (.fad 3 (.t 1)),
 gT 48 50 (.ld none (.t 49)),
 gT 48 51 (.bin false .eql (.t 50) (.c (.int .u64 0))),
 mo (.pick (.t 48) (.t 51) (.c (.bool false))) 52]
@[irreducible] def mg_4n:List MOp:=[gT 53 54 (.fad 4 (.t 1)),
 gT 53 55 (.ld none (.t 54)),
 gT 53 56 (.len false (.t 55)),
 gT 53 57 (.bin false .eql (.t 56) (cI 0)),
 mo (.pick (.t 53) (.t 57) (.c (.bool false))) 58]
@[irreducible] def mg_4o:List MOp:=[gT 64 65 (.fad 2 (.t 1)),
 gT 64 66 (.ld none (.t 65)),
 gT 64 67 (.bin false .eql (.t 66) (cI 0)),
 mo (.pick (.t 64) (.t 67) (.c (.bool false))) 68]
@[irreducible] def mg_4p:List MOp:=[gT 69 70 (.fad 4 (.t 1)),
 gT 69 71 (.ld none (.t 70)),
 gT 69 72 (.len false (.t 71)),
 gT 69 73 (.bin false .eql (.t 72) (cI 0)),
 mo (.pick (.t 69) (.t 73) (.c (.bool false))) 74]
@[irreducible] def mg_4q:List MOp:=[gT 80 81 (.fad 2 (.t 1)),
 gT 80 82 (.ld none (.t 81)),
 gT 80 83 (.bin false .eql (.t 82) (cI 0)),
 mo (.pick (.t 80) (.t 83) (.c (.bool false))) 84]
@[irreducible] def mg_4r:List MOp:=[gT 85 86 (.fad 3 (.t 1)),
 gT 85 87 (.ld none (.t 86)),
 gT 85 88 (.bin false .eql (.t 87) (.c (.int .u64 0))),
 mo (.pick (.t 85) (.t 88) (.c (.bool false))) 89]
@[irreducible] def mg_4s:List MOp:=[gT 90 91 (.fad 4 (.t 1)),
 gT 90 92 (.ld none (.t 91)),
 gT 90 93 (.len false (.t 92)),
 gT 90 94 (.bin false .eql (.t 93) (cI 1)),
 mo (.pick (.t 90) (.t 94) (.c (.bool false))) 95]
@[irreducible] def mg_4t:List MOp:=[gT 102 103 (.fad 2 (.t 1)),
 gT 102 104 (.ld none (.t 103)),
 gT 102 105 (.bin false .eql (.t 104) (cI 0)),
 mo (.pick (.t 102) (.t 105) (.c (.bool false))) 106]
@[irreducible] def mg_4u:List MOp:=[gT 107 108 (.fad 3 (.t 1)),
 gT 107 109 (.ld none (.t 108)),
 gT 107 110 (.bin false .eql (.t 109) (.c (.int .u64 0))),
 mo (.pick (.t 107) (.t 110) (.c (.bool false))) 111]
@[irreducible] def mg_4v:List MOp:=[gT 112 113 (.fad 4 (.t 1)),
 gT 112 114 (.ld none (.t 113)),
 gT 112 115 (.len false (.t 114)),
 gT 112 116 (.bin false .geq (.t 115) (cI 2)),
 mo (.pick (.t 112) (.t 116) (.c (.bool false))) 117]
@[irreducible] def mc_4w:MC :=
 (.cond (.t 96)
 (.regI [.op (oF 1 1 99),
 .op (oL 99 100),
 .op (mo (.bin false .eql (.t 100) (.c (.str []))) 101),
 .op (oV 101 102),
 .grp mg_4t,
 .op (oV 106 107),
 .grp mg_4u,
 .op (oV 111 112),
 .grp mg_4v,
 .op (oV 117 3)])
 .skip)
@[irreducible] def mc_4x:MC :=
 (.cond (.t 30)
 (.regI [.op (oF 1 1 35),
 .op (oL 35 36),
 .op (mo (.bin false .eql (.t 36) (.c (.str []))) 37),
 .op (oV 37 38),
 .grp mg_4k,
 .op (oV 42 43),
 .grp mg_4l,
 .op (oV 47 48),
 .grp mg_4m,
 .op (oV 52 53),
 .grp mg_4n,
 .op (oV 58 3)])
 (sR [mo (.bin false .eql (.t 6) (cI 7)) 60,
 oV 60 59]
 (.cond (.t 59)
 (.regI [.op (oF 1 1 61),
 .op (oL 61 62),
 .op (mo (.bin false .eql (.t 62) (.c (.str []))) 63),
 .op (oV 63 64),
 .grp mg_4o,
 .op (oV 68 69),
 .grp mg_4p,
 .op (oV 74 3)])
 (sR [mo (.bin false .eql (.t 6) (cI 9)) 76,
 oV 76 75]
 (.cond (.t 75)
 (.regI [.op (oF 1 1 77),
 .op (oL 77 78),
 .op (mo (.bin false .eql (.t 78) (.c (.str []))) 79),
 .op (oV 79 80),
 .grp mg_4q,
 .op (oV 84 85),
 .grp mg_4r,
 .op (oV 89 90),
 .grp mg_4s,
 .op (oV 95 3)])
 (.cut (sR [mo (.bin false .eql (.t 6) (cI 10)) 97,
 oV 97 96]
 (.cond (.t 96)
 .skip
 (.reg [mo (.bin false .eql (.t 6) (cI 11)) 98,
 oV 98 96])))
 mc_4w))))))
@[irreducible] def mc_4y:MC :=
 (.cond (.t 7)
 (.regI [.op (oF 1 1 11),
 .op (oL 11 12),
 .op (mo (.call (.f 116) [(.t 12)] [] []) 13),
 .op (oV 13 14),
 .grp mg_4h,
 .op (oV 18 19),
 .grp mg_4i,
 .op (oV 23 24),
 .grp mg_4j,
 .op (oV 29 3)])
 (.cut (sR [mo (.bin false .eql (.t 6) (cI 4)) 31,
 oV 31 30]
 (.cond (.t 30)
 .skip
 (sR [mo (.bin false .eql (.t 6) (cI 5)) 32,
 oV 32 30]
 (.cond (.t 30)
 .skip
 (sR [mo (.bin false .eql (.t 6) (cI 6)) 33,
 oV 33 30]
 (.cond (.t 30)
 .skip
 (.reg [mo (.bin false .eql (.t 6) (cI 8)) 34,
 oV 34 30])))))))
 mc_4x))
@[irreducible] def mg_4z:List MOp:=[gT 123 124 (.mv (.t 3)),
 mo (.pick (.t 123) (.t 124) (.c (.bool false))) 125]
@[irreducible] def mc_50:MC :=
 (.seq (.seq (.regI [.op (oV 4 118),
 .op (oF 4 1 119),
 .op (oL 119 120),
 .op (mo (.len false (.t 120)) 121),
 .op (mo (.bin false .lss (.t 118) (.t 121)) 122),
 .op (oV 122 123),
 .grp mg_4z])
 (.cond (.t 125)
 .skip
 (.exit 1)))
 (.seq (.block 2
 (.note (.gc [1,4,124]) (.reg [oF 4 1 128,
 oL 128 129,
 oV 4 130,
 mo (.iad 5 (.t 129) (.t 130)) 131,
 mo (.ld (some 5) (.t 131)) 132,
 mo (.call (.f 86) [(.t 132)] [] []) 133,
 oV 133 3])))
 (.reg [oV 4 126,
 mo (.bin true .add (.t 126) (cI 1)) 127,
 oV 127 4])))
@[irreducible] def mc_51:MC :=
 (.seq (sR [oC 0 4]
 (.block 1
 (.loop mc_50)))
 (sR [oV 3 134,
 oV 134 2]
 .ret))
def mc_e:MC :=
 (sR [mo (.box (.t 0)) 1,
 mo (.mv (.c (.bool false))) 2]
 (sR [mo (.mv (.c (.bool false))) 3]
 (.cut (sR [oF 0 1 5,
 oL 5 6]
 (.block 0
 (.cut (sR [mo (.bin false .eql (.t 6) (cI 1)) 8,
 oV 8 7]
 (.cond (.t 7)
 .skip
 (sR [mo (.bin false .eql (.t 6) (cI 2)) 9,
 oV 9 7]
 (.cond (.t 7)
 .skip
 (.reg [mo (.bin false .eql (.t 6) (cI 3)) 10,
 oV 10 7])))))
 mc_4y)))
 mc_51)))
theorem Wq_e {n:Nat} (ih_ref21_right:∀{c_:GTerm} {y:Bool},FR_e n c_=some y→ACall Tryz.prog 86 [GTerm.v c_] [] (fun r H=>r=.bool y∧H=[])) (c_:GTerm) {Q:Bool→Prop} {Q':V→Heap→Prop} (h:Ok (FR_e (n+1) c_) Q) (hQ:∀z,Q z→Q' (.bool z) []):ACall Tryz.prog 86 [GTerm.v c_] [] Q':=by
 refine acallM mc_e [] [] [.t 2] Tryz.func86 fun M=>?_
 simp only [FR_e] at h
 unfold mc_e
 replace h:=tY h
 refine tB ?_
 repeat' (first
 | (exact tZ)
 | ((first|refine oblg h ?_|refine roomG h ?_|refine fork h ?_ ?_|refine forkS h ?_ ?_)<;>clear h<;>intro hc h)
 | (obtain ⟨y,hy,h⟩:=h;(first|with_reducible first|have hw:=Wq_1q.w hy|have hw:=ih_ref21_right hy);replace hw:=tY hw;(first|refine M.sC hw ?_|refine M.sD hw ?_);clear hw hy;refine tB ?_)
 | (refine M.gv1 (ms:=mg_4j) 29 [25,26,27,28] h ?_ ?_<;>first
 | (clear h;intro K hK1;unfold mg_4j;refine tB ?_)
 | (clear h;intro b h;replace h:=tY h;refine tB ?_))
 | (refine M.gv1 (ms:=mg_4i) 23 [20,21,22] h ?_ ?_<;>first
 | (clear h;intro K hK2;unfold mg_4i;refine tB ?_)
 | (clear h;intro b h;replace h:=tY h;refine tB ?_))
 | (refine M.gv1 (ms:=mg_4h) 18 [15,16,17] h ?_ ?_<;>first
 | (clear h;intro K hK3;unfold mg_4h;refine tB ?_)
 | (clear h;intro b h;replace h:=tY h;refine tB ?_))
 | (refine M.gv1 (ms:=mg_4n) 58 [54,55,56,57] h ?_ ?_<;>first
 | (clear h;intro K hK4;unfold mg_4n;refine tB ?_)
 | (clear h;intro b h;replace h:=tY h;refine tB ?_))
 | (refine M.gv1 (ms:=mg_4m) 52 [49,50,51] h ?_ ?_<;>first
 | (clear h;intro K hK5;unfold mg_4m;refine tB ?_)
 | (clear h;intro b h;replace h:=tY h;refine tB ?_))
 | (refine M.gv1 (ms:=mg_4l) 47 [44,45,46] h ?_ ?_<;>first
 | (clear h;intro K hK6;unfold mg_4l;refine tB ?_)
 | (clear h;intro b h;replace h:=tY h;refine tB ?_))
 | (refine M.gv1 (ms:=mg_4k) 42 [39,40,41] h ?_ ?_<;>first
 | (clear h;intro K hK7;unfold mg_4k;refine tB ?_)
 | (clear h;intro b h;replace h:=tY h;refine tB ?_))
 | (refine M.gv1 (ms:=mg_4p) 74 [70,71,72,73] h ?_ ?_<;>first
 | (clear h;intro K hK8;unfold mg_4p;refine tB ?_)
 | (clear h;intro b h;replace h:=tY h;refine tB ?_))
 | (refine M.gv1 (ms:=mg_4o) 68 [65,66,67] h ?_ ?_<;>first
 | (clear h;intro K hK9;unfold mg_4o;refine tB ?_)
 | (clear h;intro b h;replace h:=tY h;refine tB ?_))
 | (refine M.gv1 (ms:=mg_4s) 95 [91,92,93,94] h ?_ ?_<;>first
 | (clear h;intro K hK10;unfold mg_4s;refine tB ?_)
 | (clear h;intro b h;replace h:=tY h;refine tB ?_))
 | (refine M.gv1 (ms:=mg_4r) 89 [86,87,88] h ?_ ?_<;>first
 | (clear h;intro K hK11;unfold mg_4r;refine tB ?_)
 | (clear h;intro b h;replace h:=tY h;refine tB ?_))
 | (refine M.gv1 (ms:=mg_4q) 84 [81,82,83] h ?_ ?_<;>first
 | (clear h;intro K hK12;unfold mg_4q;refine tB ?_)
 | (clear h;intro b h;replace h:=tY h;refine tB ?_))
 | (refine M.gv1 (ms:=mg_4v) 117 [113,114,115,116] h ?_ ?_<;>first
 | (clear h;intro K hK13;unfold mg_4v;refine tB ?_)
 | (clear h;intro b h;replace h:=tY h;refine tB ?_))
 | (refine M.gv1 (ms:=mg_4u) 111 [108,109,110] h ?_ ?_<;>first
 | (clear h;intro K hK14;unfold mg_4u;refine tB ?_)
 | (clear h;intro b h;replace h:=tY h;refine tB ?_))
 | (refine M.gv1 (ms:=mg_4t) 106 [103,104,105] h ?_ ?_<;>first
 | (clear h;intro K hK15;unfold mg_4t;refine tB ?_)
 | (clear h;intro b h;replace h:=tY h;refine tB ?_))
 | (refine M.jn1 (b:=mc_4w) [1,3] [1] (fun y=>[(96,.bool y)]) (fun y=>[]) [] h ?_ ?_<;>first
 | (clear h;intro Qn K hK16 h;replace h:=tY h;refine tB ?_)
  |(clear h;intro y h;unfold mc_4w;replace h:=tY h;refine tB ?_))
 | (refine M.jn1 (b:=mc_4x) [1,3,6] [1] (fun y=>[(30,.bool y)]) (fun y=>[]) [] h ?_ ?_<;>first
 | (clear h;intro Qn K hK17 h;replace h:=tY h;refine tB ?_)
  |(clear h;intro y h;unfold mc_4x;replace h:=tY h;refine tB ?_))
 | (refine M.jn1 (b:=mc_4y) [1,3,6] [1] (fun y=>[(7,.bool y)]) (fun y=>[]) [] h ?_ ?_<;>first
 | (clear h;intro Qn K hK18 h;replace h:=tY h;refine tB ?_)
  |(clear h;intro y h;unfold mc_4y;replace h:=tY h;refine tB ?_))
 | (refine M.gv1 (ms:=mg_4z) 125 [124] h ?_ ?_<;>first
 | (clear h;intro K hK19;unfold mg_4z;refine tB ?_)
 | (clear h;intro b h;replace h:=tY h;refine tB ?_))
 | (refine M.wh1 (b:=mc_50) [1] [1] (fun x=>[(3,.bool x.1),(4,.int .i64 x.2)]) (fun x=>[]) [] h ?_ ?_<;>first
 | (clear h;intro x Qn K hK20 h;unfold mc_50;replace h:=tY h;refine tB ?_)
  |(clear h;(try refine tB ?_);exact tU0;done))
 | (refine M.jn1 (b:=mc_51) [1] [1] (fun y=>[(3,.bool y)]) (fun y=>[]) [] h ?_ ?_<;>first
 | (clear h;intro Qn K hK21 h;replace h:=tY h;refine tB ?_)
  |(clear h;intro y h;unfold mc_51;replace h:=tY h;refine tB ?_))
 | ((first|refine hK1 _ ?_|refine hK2 _ ?_|refine hK3 _ ?_|refine hK4 _ ?_|refine hK5 _ ?_|refine hK6 _ ?_|refine hK7 _ ?_|refine hK8 _ ?_|refine hK9 _ ?_|refine hK10 _ ?_|refine hK11 _ ?_|refine hK12 _ ?_|refine hK13 _ ?_|refine hK14 _ ?_|refine hK15 _ ?_|refine hK19 _ ?_);exact tU;done)
 | ((first|refine hK16 _ ?_|refine hK17 _ ?_|refine hK18 _ ?_|refine hK20 _ ?_|refine hK21 _ ?_);(try refine tB ?_);refine ⟨_,h,?_⟩;exact tU0;done)
 | (refine bfork (fun hc=>?_) (fun hc=>?_))
 | (refine tE ?_;(first|rw [M.lok_compU]|rw [M.lokD_compU]);refine tB ?_)
 | (refine tA ?_)
 | fail)
theorem WG_e:∀n,(∀{c_:GTerm} {y:Bool},FR_e n c_=some y→ACall Tryz.prog 86 [GTerm.v c_] [] (fun r H=>r=.bool y∧H=[]))
 | 0=>fun hy=>(by simp only [FR_e] at hy;cases hy)
 | n+1=>by
  have ih_ref21_right:=@WG_e n
  exact fun hy=>Wq_e ih_ref21_right _ (Q:=(·=_)) ⟨_,hy,rfl⟩ fun|_,rfl=>⟨rfl,rfl⟩
theorem W_e:∀{c_:GTerm} {y:Bool},F_e c_=some y→ACall Tryz.prog 86 [GTerm.v c_] [] (fun r H=>r=.bool y∧H=[]):=fun hy=>by
 obtain ⟨n,hn⟩:=lim_inv hy
 exact (WG_e n) hn
noncomputable def F_1r (c_:GTerm):Option Int :=
 (F_c c_ 0).bind fun y4=>bif decide (60<y4) then some 3 else (F_d c_).bind fun y8=>bif decide (20<y8) then some 9 else (F_e c_).bind fun y12=>bif (!y12) then some 1 else some 0
def mc_1r:MC :=
 (sR [mo (.box (.t 0)) 1,
 oC 0 2]
 (.seq (sR [mo (.ld (some 5) (.t 1)) 3,
 mo (.call (.f 84) [(.t 3),(cI 0)] [] []) 4,
 mo (.bin false .gtr (.t 4) (cI 60)) 5]
 (.cond (.t 5)
 (sR [oC 3 2]
 .ret)
 .skip))
 (.seq (sR [mo (.ld (some 5) (.t 1)) 6,
 mo (.call (.f 85) [(.t 6)] [] []) 7,
 mo (.bin false .gtr (.t 7) (cI 20)) 8]
 (.cond (.t 8)
 (sR [oC 9 2]
 .ret)
 .skip))
 (.seq (.seq (.note (.gc [1]) (.reg [mo (.ld (some 5) (.t 1)) 9,
 mo (.call (.f 86) [(.t 9)] [] []) 10,
 mo (.not (.t 10)) 11]))
 (.cond (.t 11)
 (sR [oC 1 2]
 .ret)
 .skip))
 (sR [oC 0 2]
 .ret)))))
theorem Wq_1r {c_:GTerm}:Cn Tryz.prog 50 [GTerm.v c_] [] (F_1r c_) (fun z=>.int .i64 z) (fun z=>[]):=fun Q Q' h hQ=>by
 refine acallM mc_1r [] [] [.t 2] Tryz.func50 fun M=>?_
 unfold F_1r at h
 unfold mc_1r
 replace h:=tY h
 refine tB ?_
 repeat' (first
 | (exact tZ)
 | ((first|refine oblg h ?_|refine roomG h ?_|refine fork h ?_ ?_|refine forkS h ?_ ?_)<;>clear h<;>intro hc h)
 | (obtain ⟨y,hy,h⟩:=h;(first|with_reducible first|have hw:=W_c hy|have hw:=W_d hy|have hw:=W_e hy);replace hw:=tY hw;(first|refine M.sC hw ?_|refine M.sD hw ?_);clear hw hy;refine tB ?_)
 | (refine tE ?_;(first|rw [M.lok_compU]|rw [M.lokD_compU]);refine tB ?_)
 | (refine tA ?_)
 | fail)
noncomputable def F_24 (l_:List GRule) (x109:Int):Option (Fl Int (Sum Unit Int)) :=
 bif decide (x109<(l_.length:Int)) then chk (inb x109 l_.length) ((F_1p ((l_.getD (x109).toNat default).Name)).bind fun y143=>bif (!y143) then some (.ex (.inr 4)) else chk (inb x109 l_.length) ((F_1r ((l_.getD (x109).toNat default).When)).bind fun y147=>bif (!decide (y147=0)) then some (.ex (.inr y147)) else chk (inb x109 l_.length) (jn (α:=Bool) (bif (!decide ((l_.getD (x109).toNat default).Verdict=1)) then chk (inb x109 l_.length) (some (!decide ((l_.getD (x109).toNat default).Verdict=2))) else some false) fun j149=>bif j149 then some (.ex (.inr 1)) else chk (in64 (x109+1)) (some (.nx (x109+1)))))) else some (.ex (.inl ()))
noncomputable def F_2i (l_:List GRule) (x221:Int) (x242:Int):Option (Fl Int (Sum Unit Int)) :=
 bif decide (x242<x221) then chk (inb x221 l_.length) (chk (inb x242 l_.length) (bif decide ((l_.getD (x221).toNat default).Name=(l_.getD (x242).toNat default).Name) then some (.ex (.inr 7)) else chk (in64 (x242+1)) (some (.nx (x242+1))))) else some (.ex (.inl ()))
noncomputable def F_2j (l_:List GRule) (x221:Int):Option (Fl Int (Sum Unit Int)) :=
 bif decide (x221<(l_.length:Int)) then (loop (F_2i l_ x221) 0).bind fun r243=>Sum.elim (fun u244=>chk (in64 (x221+1)) (some (.nx (x221+1)))) (fun u245=>some (.ex (.inr u245))) r243 else some (.ex (.inl ()))
noncomputable def F_1s (l_:List GRule):Option Int :=
 bif decide (40<(l_.length:Int)) then some 3 else (loop (F_24 l_) 0).bind fun r150=>Sum.elim (fun u151=>(loop (F_2j l_) 0).bind fun r246=>Sum.elim (fun u247=>some 0) (fun u248=>some u248) r246) (fun u152=>some u152) r150
@[irreducible] def mg_52:List MOp:=[gT 38 39 (.mv (.t 0)),
 gT 38 40 (.mv (.t 3)),
 gT 38 41 (.iad 7 (.t 39) (.t 40)),
 gT 38 42 (.fad 6 (.t 41)),
 gT 38 43 (.ld none (.t 42)),
 gT 38 44 (.bin false .neq (.t 43) (cI 2)),
 mo (.pick (.t 38) (.t 44) (.c (.bool false))) 45]
@[irreducible] def mc_24:MC :=
 (.seq (sR [oV 3 10,
 oV 0 11,
 mo (.len false (.t 11)) 12,
 mo (.bin false .lss (.t 10) (.t 12)) 13]
 (.cond (.t 13)
 .skip
 (.exit 0)))
 (.seq (.block 1
 (.seq (sR [oV 0 16,
 oV 3 17,
 mo (.iad 7 (.t 16) (.t 17)) 18,
 oF 0 18 19,
 oL 19 20,
 mo (.call (.f 49) [(.t 20)] [] []) 21,
 mo (.not (.t 21)) 22]
 (.cond (.t 22)
 (sR [oC 4 2]
 .ret)
 .skip))
 (.seq (.seq (.note (.gc [0,3,39,40,41,42,43,44]) (.reg [oV 0 23,
 oV 3 24,
 mo (.iad 7 (.t 23) (.t 24)) 25,
 oF 1 25 26,
 mo (.ld (some 5) (.t 26)) 27,
 mo (.call (.f 50) [(.t 27)] [] []) 28,
 oV 28 4]))
 (sR [oV 4 29,
 mo (.bin false .neq (.t 29) (cI 0)) 30]
 (.cond (.t 30)
 (sR [oV 4 31,
 oV 31 2]
 .ret)
 .skip)))
 (.seq (.note (.gc [0,3,39,40,41,42,43,44]) (.regI [.op (oV 0 32),
 .op (oV 3 33),
 .op (mo (.iad 7 (.t 32) (.t 33)) 34),
 .op (oF 6 34 35),
 .op (oL 35 36),
 .op (mo (.bin false .neq (.t 36) (cI 1)) 37),
 .op (oV 37 38),
 .grp mg_52]))
 (.cond (.t 45)
 (sR [oC 1 2]
 .ret)
 .skip)))))
 (.reg [oV 3 14,
 mo (.bin true .add (.t 14) (cI 1)) 15,
 oV 15 3])))
@[irreducible] def mc_2i:MC :=
 (.seq (sR [oV 6 52,
 oV 5 53,
 mo (.bin false .lss (.t 52) (.t 53)) 54]
 (.cond (.t 54)
 .skip
 (.exit 4)))
 (.seq (.block 5
 (.seq (.regD [oV 0 57,
 oV 5 58,
 mo (.iad 7 (.t 57) (.t 58)) 59,
 oF 0 59 60,
 oL 60 61,
 oV 0 62,
 oV 6 63,
 mo (.iad 7 (.t 62) (.t 63)) 64,
 oF 0 64 65,
 oL 65 66,
 mo (.bin false .eql (.t 61) (.t 66)) 67]
 [[],[],[0,1],[2],[3],[],[],[5,6],[7],[8],[4,9]]
 [[],[],[0,1],[0,1,2],[0,1,2,3],[],[],[5,6],[5,6,7],[5,6,7,8],[0,1,2,3,4,5,6,7,8,9]])
 (.cond (.t 67)
 (sR [oC 7 2]
 .ret)
 .skip)))
 (.note (.gc [0,5,6]) (.reg [oV 6 55,
 mo (.bin true .add (.t 55) (cI 1)) 56,
 oV 56 6]))))
@[irreducible] def mc_2j:MC :=
 (.seq (sR [oV 5 46,
 oV 0 47,
 mo (.len false (.t 47)) 48,
 mo (.bin false .lss (.t 46) (.t 48)) 49]
 (.cond (.t 49)
 .skip
 (.exit 2)))
 (.seq (.block 3
 (sR [oC 0 6]
 (.block 4
 (.loop mc_2i))))
 (.reg [oV 5 50,
 mo (.bin true .add (.t 50) (cI 1)) 51,
 oV 51 5])))
def mc_1s:MC :=
 (sR [oC 0 2]
 (.seq (sR [oV 0 7,
 mo (.len false (.t 7)) 8,
 mo (.bin false .gtr (.t 8) (cI 40)) 9]
 (.cond (.t 9)
 (sR [oC 3 2]
 .ret)
 .skip))
 (.seq (sR [oC 0 3]
 (.block 0
 (.loop mc_24)))
 (.seq (sR [oC 0 5]
 (.block 2
 (.loop mc_2j)))
 (sR [oC 0 2]
 .ret)))))
theorem Wq_1s {l_:List GRule}:Cn Tryz.prog 28 [.sl (l_.map GRule.v)] [] (F_1s l_) (fun z=>.int .i64 z) (fun z=>[]):=fun Q Q' h hQ=>by
 refine acallM mc_1s [] [] [.t 2] Tryz.func28 fun M=>?_
 unfold F_1s at h
 unfold mc_1s
 replace h:=tY h
 refine tB ?_
 repeat' (first
 | (exact tZ)
 | ((first|refine oblg h ?_|refine roomG h ?_|refine fork h ?_ ?_|refine forkS h ?_ ?_)<;>clear h<;>intro hc h)
 | (obtain ⟨y,hy,h⟩:=h;(first|with_reducible first|have hw:=Wq_1p.w hy|have hw:=Wq_1r.w hy);replace hw:=tY hw;(first|refine M.sC hw ?_|refine M.sD hw ?_);clear hw hy;refine tB ?_)
 | (refine M.gj1 (ms:=mg_52) [0,3] [] (fun y=>[(45,.bool y)]) (fun y=>[]) h ?_ ?_<;>first
 | (clear h;intro Qn K hK1 h;unfold mg_52;replace h:=tY h;refine tB ?_)
  |(clear h;intro y h;replace h:=tY h;refine tB ?_))
 | (refine M.wh1 (b:=mc_24) [0] [] (fun x=>[(3,.int .i64 x)]) (fun x=>[]) [] h ?_ ?_<;>first
 | (clear h;intro x Qn K hK2 h;unfold F_24 at h;unfold mc_24;replace h:=tY h;refine tB ?_)
  |(clear h;(try refine tB ?_);exact tU0;done))
 | (refine M.wh1 (b:=mc_2i) [0,5] [] (fun x=>[(6,.int .i64 x)]) (fun x=>[]) [] h ?_ ?_<;>first
 | (clear h;intro x Qn K hK3 h;unfold F_2i at h;unfold mc_2i;replace h:=tY h;refine tB ?_)
  |(clear h;(try refine tB ?_);exact tU0;done))
 | (refine M.wh1 (b:=mc_2j) [0] [] (fun x=>[(5,.int .i64 x)]) (fun x=>[]) [] h ?_ ?_<;>first
 | (clear h;intro x Qn K hK4 h;unfold F_2j at h;unfold mc_2j;replace h:=tY h;refine tB ?_)
  |(clear h;(try refine tB ?_);exact tU0;done))
 | ((first|refine hK1 _ ?_|refine hK2 _ ?_|refine hK3 _ ?_|refine hK4 _ ?_);(try refine tB ?_);refine ⟨_,h,?_⟩;exact tU0;done)
 | (refine tE ?_;(first|rw [M.lok_compU]|rw [M.lokD_compU]);refine tB ?_)
 | (refine tA ?_)
 | fail)
def F_25:Option (List Str) :=
 some [[],[107,105,110,100],[112,97,116,104],[101,110,100,115],[115,111,117,114,99,101],[100,101,112,116,104],[108,101,110,103,116,104],[112,114,105,110,116],[98,101,102,111,114,101],[110,111,116],[97,110,100],[111,114]]
def mc_25:MC :=
 (sR [mo (.mv (.c (.sl []))) 0]
 (sR [mo (.bslice 1 [(.c (.str [])),(.c (.str [107,105,110,100])),(.c (.str [112,97,116,104])),(.c (.str [101,110,100,115])),(.c (.str [115,111,117,114,99,101])),(.c (.str [100,101,112,116,104])),(.c (.str [108,101,110,103,116,104])),(.c (.str [112,114,105,110,116])),(.c (.str [98,101,102,111,114,101])),(.c (.str [110,111,116])),(.c (.str [97,110,100])),(.c (.str [111,114]))]) 1,
 oV 1 0]
 .ret))
theorem Wq_25:Cn Tryz.prog 51 [] [] F_25 (fun z=>.sl (z.map V.str)) (fun z=>[]):=fun Q Q' h hQ=>by
 refine acallM mc_25 [.fz 0] [] [.t 0] Tryz.func51 fun M=>?_
 unfold F_25 at h
 unfold mc_25
 replace h:=tY h
 refine tB ?_
 repeat' (first
 | (exact tZ)
 | ((first|refine oblg h ?_|refine roomG h ?_|refine fork h ?_ ?_|refine forkS h ?_ ?_)<;>clear h<;>intro hc h)
 | (refine tE ?_;(first|rw [M.lok_compU]|rw [M.lokD_compU]);refine tB ?_)
 | (refine tA ?_)
 | fail)
def FR_f:Nat→Int→Option Str
 | 0,_=>none
 | n+1,n_ =>
 bif decide (n_<10) then some [(u8 (48+((u8 n_).toNat:Int)))] else chk (divs n_ 10) ((FR_f n (n_ / 10)).bind fun y2=>chk (divs n_ 10) (chk (strl (y2.length+[(u8 (48+((u8 (n_ % 10)).toNat:Int)))].length)) (some (y2++[(u8 (48+((u8 (n_ % 10)).toNat:Int)))]))))
noncomputable def F_f (n_:Int):Option Str:=lim fun n=>FR_f n n_
def mc_f:MC :=
 (sR [mo (.mv (.c (.str []))) 2]
 (.seq (sR [oV 0 3,
 mo (.bin false .lss (.t 3) (.c (.int .u64 10))) 4]
 (.cond (.t 4)
 (sR [oV 0 5,
 mo (.i2i false .u8 (.t 5)) 6,
 mo (.bin false .add (.c (.int .u8 48)) (.t 6)) 7,
 mo (.bslice 1 [(.t 7)]) 8,
 mo (.b2s (.t 8)) 9,
 oV 9 2]
 .ret)
 .skip))
 (.seq (.regD [oV 0 10,
 mo (.bin true .quo (.t 10) (.c (.int .u64 10))) 11,
 mo (.call (.f 52) [(.t 11)] [] []) 12,
 oV 0 13,
 mo (.bin true .rem (.t 13) (.c (.int .u64 10))) 14,
 mo (.i2i false .u8 (.t 14)) 15,
 mo (.bin false .add (.c (.int .u8 48)) (.t 15)) 16,
 mo (.bslice 1 [(.t 16)]) 17,
 mo (.b2s (.t 17)) 18,
 mo (.bin false .add (.t 12) (.t 18)) 19,
 oV 19 2]
 [[],[0],[1],[],[3],[4],[5],[6],[7],[2,8],[9,2,0,1,2,3,4,5,6,7,8,9]]
 [[],[0],[0,1],[],[3],[3,4],[3,4,5],[3,4,5,6],[3,4,5,6,7],[0,1,2,3,4,5,6,7,8],[0,1,2,3,4,5,6,7,8,9]])
 .ret)))
theorem Wq_f {n:Nat} (ih_ref21_decimal:∀{n_:Int} {y:Str},FR_f n n_=some y→ACall Tryz.prog 52 [.int .u64 n_] [] (fun r H=>r=.str y∧H=[])) (n_:Int) {Q:Str→Prop} {Q':V→Heap→Prop} (h:Ok (FR_f (n+1) n_) Q) (hQ:∀z,Q z→Q' (.str z) []):ACall Tryz.prog 52 [.int .u64 n_] [] Q':=by
 refine acallM mc_f [] [] [.t 2] Tryz.func52 fun M=>?_
 simp only [FR_f] at h
 unfold mc_f
 replace h:=tY h
 refine tB ?_
 repeat' (first
 | (exact tZ)
 | ((first|refine oblg h ?_|refine roomG h ?_|refine divG h ?_|refine fork h ?_ ?_|refine forkS h ?_ ?_)<;>clear h<;>intro hc h)
 | (obtain ⟨y,hy,h⟩:=h;have hw:=ih_ref21_decimal hy;replace hw:=tY hw;(first|refine M.sC hw ?_|refine M.sD hw ?_);clear hw hy;refine tB ?_)
 | (refine tE ?_;(first|rw [M.lok_compU]|rw [M.lokD_compU]);refine tB ?_)
 | (refine tA ?_)
 | fail)
theorem WG_f:∀n,(∀{n_:Int} {y:Str},FR_f n n_=some y→ACall Tryz.prog 52 [.int .u64 n_] [] (fun r H=>r=.str y∧H=[]))
 | 0=>fun hy=>(by simp only [FR_f] at hy;cases hy)
 | n+1=>by
  have ih_ref21_decimal:=@WG_f n
  exact fun hy=>Wq_f ih_ref21_decimal _ (Q:=(·=_)) ⟨_,hy,rfl⟩ fun|_,rfl=>⟨rfl,rfl⟩
theorem W_f:∀{n_:Int} {y:Str},F_f n_=some y→ACall Tryz.prog 52 [.int .u64 n_] [] (fun r H=>r=.str y∧H=[]):=fun hy=>by
 obtain ⟨n,hn⟩:=lim_inv hy
 exact (WG_f n) hn
noncomputable def FR_b:Nat→GTerm→Option Str
 | 0,_=>none
 | n+1,c_ =>
 F_25.bind fun y2=>chk (inb c_.Op y2.length) (jn (α:=Bool) (bif decide (c_.Op=1) then some true else bif decide (c_.Op=2) then some true else some (decide (c_.Op=3))) fun j11=>bif j11 then chk (strl ((y2.getD (c_.Op).toNat default).length+[32,34].length)) (chk (strl (((y2.getD (c_.Op).toNat default)++[32,34]).length+c_.Text.length)) (chk (strl ((((y2.getD (c_.Op).toNat default)++[32,34])++c_.Text).length+[34].length)) (some ((((y2.getD (c_.Op).toNat default)++[32,34])++c_.Text)++[34])))) else jn (α:=Bool) (bif decide (c_.Op=4) then some true else bif decide (c_.Op=5) then some true else bif decide (c_.Op=6) then some true else some (decide (c_.Op=8))) fun j12=>bif j12 then chk (strl ((y2.getD (c_.Op).toNat default).length+[32].length)) ((F_1 c_.Number).bind fun y14=>chk (strl (((y2.getD (c_.Op).toNat default)++[32]).length+y14.length)) (some (((y2.getD (c_.Op).toNat default)++[32])++y14))) else bif decide (c_.Op=7) then chk (strl ((y2.getD (c_.Op).toNat default).length+[32].length)) ((F_f c_.Print).bind fun y16=>chk (strl (((y2.getD (c_.Op).toNat default)++[32]).length+y16.length)) (some (((y2.getD (c_.Op).toNat default)++[32])++y16))) else bif decide (c_.Op=9) then chk (strl ((y2.getD (c_.Op).toNat default).length+[32,40].length)) (chk (inb 0 c_.Kids.length) ((FR_b n (c_.Kids.getD 0 default)).bind fun y18=>chk (strl (((y2.getD (c_.Op).toNat default)++[32,40]).length+y18.length)) (chk (strl ((((y2.getD (c_.Op).toNat default)++[32,40])++y18).length+[41].length)) (some ((((y2.getD (c_.Op).toNat default)++[32,40])++y18)++[41]))))) else (loop (fun (x45:Str×Int)=>(bif decide (x45.2<(c_.Kids.length:Int)) then jn (α:=Str) (bif decide (0<x45.2) then chk (strl ([32].length+(y2.getD (c_.Op).toNat default).length)) (chk (strl ((([32]:Str)++(y2.getD (c_.Op).toNat default)).length+[32].length)) (chk (strl (x45.1.length+((([32]:Str)++(y2.getD (c_.Op).toNat default))++[32]).length)) (some (x45.1++((([32]:Str)++(y2.getD (c_.Op).toNat default))++[32]))))) else some x45.1) fun j52=>chk (inb x45.2 c_.Kids.length) ((FR_b n (c_.Kids.getD (x45.2).toNat default)).bind fun y53=>chk (strl (j52.length+y53.length)) (chk (in64 (x45.2+1)) (some (.nx ((j52++y53),(x45.2+1)))))) else some (.ex x45.1):Option (Fl (Str×Int) Str))) ([40],0)).bind fun r54=>chk (strl (r54.length+[41].length)) (some (r54++[41])))
noncomputable def F_b (c_:GTerm):Option Str:=lim fun n=>FR_b n c_
@[irreducible] def mc_53:MC :=
 (.cond (.t 23)
 (sR [oV 3 28,
 mo (.bin false .add (.t 28) (.c (.str [32]))) 29,
 oF 2 1 30,
 oL 30 31,
 mo (.call (.f 30) [(.t 31)] [] []) 32,
 mo (.bin false .add (.t 29) (.t 32)) 33,
 oV 33 2]
 .ret)
 (sR [mo (.bin false .eql (.t 12) (cI 7)) 35,
 oV 35 34]
 (.cond (.t 34)
 (sR [oV 3 36,
 mo (.bin false .add (.t 36) (.c (.str [32]))) 37,
 oF 3 1 38,
 oL 38 39,
 mo (.call (.f 52) [(.t 39)] [] []) 40,
 mo (.bin false .add (.t 37) (.t 40)) 41,
 oV 41 2]
 .ret)
 (sR [mo (.bin false .eql (.t 12) (cI 9)) 43,
 oV 43 42]
 (.cond (.t 42)
 (sR [oV 3 44,
 mo (.bin false .add (.t 44) (.c (.str [32,40]))) 45,
 oF 4 1 46,
 oL 46 47,
 mo (.iad 5 (.t 47) (cI 0)) 48,
 mo (.ld (some 5) (.t 48)) 49,
 mo (.call (.f 29) [(.t 49)] [] []) 50,
 mo (.bin false .add (.t 45) (.t 50)) 51,
 mo (.bin false .add (.t 51) (.c (.str [41]))) 52,
 oV 52 2]
 .ret)
 .skip)))))
@[irreducible] def mc_54:MC :=
 (.cond (.t 13)
 (sR [oV 3 17,
 mo (.bin false .add (.t 17) (.c (.str [32,34]))) 18,
 oF 1 1 19,
 oL 19 20,
 mo (.bin false .add (.t 18) (.t 20)) 21,
 mo (.bin false .add (.t 21) (.c (.str [34]))) 22,
 oV 22 2]
 .ret)
 (.cut (sR [mo (.bin false .eql (.t 12) (cI 4)) 24,
 oV 24 23]
 (.cond (.t 23)
 .skip
 (sR [mo (.bin false .eql (.t 12) (cI 5)) 25,
 oV 25 23]
 (.cond (.t 23)
 .skip
 (sR [mo (.bin false .eql (.t 12) (cI 6)) 26,
 oV 26 23]
 (.cond (.t 23)
 .skip
 (.reg [mo (.bin false .eql (.t 12) (cI 8)) 27,
 oV 27 23])))))))
 mc_53))
@[irreducible] def mc_55:MC :=
 (.reg [oV 4 67,
 oF 4 1 68,
 oL 68 69,
 oV 5 70,
 mo (.iad 5 (.t 69) (.t 70)) 71,
 mo (.ld (some 5) (.t 71)) 72,
 mo (.call (.f 29) [(.t 72)] [] []) 73,
 mo (.bin false .add (.t 67) (.t 73)) 74,
 oV 74 4])
@[irreducible] def mc_56:MC :=
 (.seq (sR [oV 5 53,
 oF 4 1 54,
 oL 54 55,
 mo (.len false (.t 55)) 56,
 mo (.bin false .lss (.t 53) (.t 56)) 57]
 (.cond (.t 57)
 .skip
 (.exit 1)))
 (.seq (.block 2
 (.cut (sR [oV 5 60,
 mo (.bin false .gtr (.t 60) (cI 0)) 61]
 (.cond (.t 61)
 (.reg [oV 4 62,
 oV 3 63,
 mo (.bin false .add (.c (.str [32])) (.t 63)) 64,
 mo (.bin false .add (.t 64) (.c (.str [32]))) 65,
 mo (.bin false .add (.t 62) (.t 65)) 66,
 oV 66 4])
 .skip))
 mc_55))
 (.note (.gc [1,3,4,5]) (.reg [oV 5 58,
 mo (.bin true .add (.t 58) (cI 1)) 59,
 oV 59 5]))))
def mc_b:MC :=
 (sR [mo (.box (.t 0)) 1,
 mo (.mv (.c (.str []))) 2]
 (.seq (.regD [mo (.call (.f 51) [] [] []) 6,
 oF 0 1 7,
 oL 7 8,
 mo (.iad 1 (.t 6) (.t 8)) 9,
 oL 9 10,
 oV 10 3]
 [[],[],[1],[0,2],[3],[4,0,0,1,2,3,4]]
 [[],[],[1],[0,1,2],[0,1,2,3],[0,1,2,3,4]])
 (.seq (sR [oF 0 1 11,
 oL 11 12]
 (.block 0
 (.cut (sR [mo (.bin false .eql (.t 12) (cI 1)) 14,
 oV 14 13]
 (.cond (.t 13)
 .skip
 (sR [mo (.bin false .eql (.t 12) (cI 2)) 15,
 oV 15 13]
 (.cond (.t 13)
 .skip
 (.reg [mo (.bin false .eql (.t 12) (cI 3)) 16,
 oV 16 13])))))
 mc_54)))
 (sR [mo (.mv (.c (.str [40]))) 4]
 (.seq (sR [oC 0 5]
 (.block 1
 (.loop mc_56)))
 (sR [oV 4 75,
 mo (.bin false .add (.t 75) (.c (.str [41]))) 76,
 oV 76 2]
 .ret))))))
theorem Wq_b {n:Nat} (ih_ref21_write:∀{c_:GTerm} {y:Str},FR_b n c_=some y→ACall Tryz.prog 29 [GTerm.v c_] [] (fun r H=>r=.str y∧H=[])) (c_:GTerm) {Q:Str→Prop} {Q':V→Heap→Prop} (h:Ok (FR_b (n+1) c_) Q) (hQ:∀z,Q z→Q' (.str z) []):ACall Tryz.prog 29 [GTerm.v c_] [] Q':=by
 refine acallM mc_b [] [] [.t 2] Tryz.func29 fun M=>?_
 simp only [FR_b] at h
 unfold mc_b
 replace h:=tY h
 refine tB ?_
 repeat' (first
 | (exact tZ)
 | ((first|refine oblg h ?_|refine roomG h ?_|refine fork h ?_ ?_|refine forkS h ?_ ?_)<;>clear h<;>intro hc h)
 | (obtain ⟨y,hy,h⟩:=h;(first|with_reducible first|have hw:=Wq_25.w hy|have hw:=W_1 hy|have hw:=W_f hy|have hw:=ih_ref21_write hy);replace hw:=tY hw;(first|refine M.sC hw ?_|refine M.sD hw ?_);clear hw hy;refine tB ?_)
 | (refine M.jn1 (b:=mc_55) [1,3,5] [1] (fun y=>[(4,.str y)]) (fun y=>[]) [] h ?_ ?_<;>first
 | (clear h;intro Qn K hK1 h;replace h:=tY h;refine tB ?_)
  |(clear h;intro y h;unfold mc_55;replace h:=tY h;refine tB ?_))
 | (refine M.wh1 (b:=mc_56) [1,3] [1] (fun x=>[(4,.str x.1),(5,.int .i64 x.2)]) (fun x=>[]) [] h ?_ ?_<;>first
 | (clear h;intro x Qn K hK2 h;unfold mc_56;replace h:=tY h;refine tB ?_)
  |(clear h;(try refine tB ?_);exact tU0;done))
 | (refine M.jn1 (b:=mc_53) [1,3,12] [1] (fun y=>[(23,.bool y)]) (fun y=>[]) [] h ?_ ?_<;>first
 | (clear h;intro Qn K hK3 h;replace h:=tY h;refine tB ?_)
  |(clear h;intro y h;unfold mc_53;replace h:=tY h;refine tB ?_))
 | (refine M.jn1 (b:=mc_54) [1,3,12] [1] (fun y=>[(13,.bool y)]) (fun y=>[]) [] h ?_ ?_<;>first
 | (clear h;intro Qn K hK4 h;replace h:=tY h;refine tB ?_)
  |(clear h;intro y h;unfold mc_54;replace h:=tY h;refine tB ?_))
 | ((first|refine hK1 _ ?_|refine hK2 _ ?_|refine hK3 _ ?_|refine hK4 _ ?_);(try refine tB ?_);refine ⟨_,h,?_⟩;exact tU0;done)
 | (refine tE ?_;(first|rw [M.lok_compU]|rw [M.lokD_compU]);refine tB ?_)
 | (refine tA ?_)
 | fail)
theorem WG_b:∀n,(∀{c_:GTerm} {y:Str},FR_b n c_=some y→ACall Tryz.prog 29 [GTerm.v c_] [] (fun r H=>r=.str y∧H=[]))
 | 0=>fun hy=>(by simp only [FR_b] at hy;cases hy)
 | n+1=>by
  have ih_ref21_write:=@WG_b n
  exact fun hy=>Wq_b ih_ref21_write _ (Q:=(·=_)) ⟨_,hy,rfl⟩ fun|_,rfl=>⟨rfl,rfl⟩
theorem W_b:∀{c_:GTerm} {y:Str},F_b c_=some y→ACall Tryz.prog 29 [GTerm.v c_] [] (fun r H=>r=.str y∧H=[]):=fun hy=>by
 obtain ⟨n,hn⟩:=lim_inv hy
 exact (WG_b n) hn
noncomputable def F_2k (l_:List GRule) (x31:Str×Int):Option (Fl (Str×Int) Str) :=
 bif decide (x31.2<(l_.length:Int)) then jn (α:=Str) (chk (inb x31.2 l_.length) (bif decide ((l_.getD (x31.2).toNat default).Verdict=2) then some [102,97,108,115,101] else some [114,101,97,108])) fun j38=>chk (inb x31.2 l_.length) (chk (strl (((l_.getD (x31.2).toNat default).Name).length+[58,32].length)) (chk (strl (((l_.getD (x31.2).toNat default).Name++[58,32]).length+j38.length)) (chk (strl ((((l_.getD (x31.2).toNat default).Name++[58,32])++j38).length+[32,105,102,32].length)) (chk (inb x31.2 l_.length) ((F_b ((l_.getD (x31.2).toNat default).When)).bind fun y39=>chk (strl (((((l_.getD (x31.2).toNat default).Name++[58,32])++j38)++[32,105,102,32]).length+y39.length)) (chk (strl ((((((l_.getD (x31.2).toNat default).Name++[58,32])++j38)++[32,105,102,32])++y39).length+[10].length)) (chk (strl (x31.1.length+((((((l_.getD (x31.2).toNat default).Name++[58,32])++j38)++[32,105,102,32])++y39)++[10]).length)) (chk (in64 (x31.2+1)) (some (.nx ((x31.1++((((((l_.getD (x31.2).toNat default).Name++[58,32])++j38)++[32,105,102,32])++y39)++[10])),(x31.2+1)))))))))))) else some (.ex x31.1)
noncomputable def F_13 (l_:List GRule):Option (Str×Int) :=
 (F_1s l_).bind fun y4=>bif (!decide (y4=0)) then some ([],y4) else (loop (F_2k l_) ([],0)).bind fun r40=>some (r40,0)
@[irreducible] def mc_57:MC :=
 (.regD [oV 5 25,
 oV 0 26,
 oV 6 27,
 mo (.iad 7 (.t 26) (.t 27)) 28,
 oF 0 28 29,
 oL 29 30,
 mo (.bin false .add (.t 30) (.c (.str [58,32]))) 31,
 oV 7 32,
 mo (.bin false .add (.t 31) (.t 32)) 33,
 mo (.bin false .add (.t 33) (.c (.str [32,105,102,32]))) 34,
 oV 0 35,
 oV 6 36,
 mo (.iad 7 (.t 35) (.t 36)) 37,
 oF 1 37 38,
 mo (.ld (some 5) (.t 38)) 39,
 mo (.call (.f 29) [(.t 39)] [] []) 40,
 mo (.bin false .add (.t 34) (.t 40)) 41,
 mo (.bin false .add (.t 41) (.c (.str [10]))) 42,
 mo (.bin false .add (.t 25) (.t 42)) 43,
 oV 43 5]
 [[],[],[],[1,2],[3],[4],[5],[],[6,7],[8],[],[],[10,11],[12],[13],[14],[9,15],[16],[0,17],[18,15,0,1,2,3,4,5,6,7,8,9,10,11,12,13,14,15,16,17,18]]
 [[],[],[],[1,2],[1,2,3],[1,2,3,4],[1,2,3,4,5],[],[1,2,3,4,5,6,7],[1,2,3,4,5,6,7,8],[],[],[10,11],[10,11,12],[10,11,12,13],[10,11,12,13,14],[1,2,3,4,5,6,7,8,9,10,11,12,13,14,15],[1,2,3,4,5,6,7,8,9,10,11,12,13,14,15,16],[0,1,2,3,4,5,6,7,8,9,10,11,12,13,14,15,16,17],[0,1,2,3,4,5,6,7,8,9,10,11,12,13,14,15,16,17,18]])
@[irreducible] def mc_2k:MC :=
 (.seq (sR [oV 6 13,
 oV 0 14,
 mo (.len false (.t 14)) 15,
 mo (.bin false .lss (.t 13) (.t 15)) 16]
 (.cond (.t 16)
 .skip
 (.exit 0)))
 (.seq (.block 1
 (sR [mo (.mv (.c (.str [114,101,97,108]))) 7]
 (.cut (sR [oV 0 19,
 oV 6 20,
 mo (.iad 7 (.t 19) (.t 20)) 21,
 oF 6 21 22,
 oL 22 23,
 mo (.bin false .eql (.t 23) (cI 2)) 24]
 (.cond (.t 24)
 (.reg [mo (.mv (.c (.str [102,97,108,115,101]))) 7])
 .skip))
 mc_57)))
 (.note (.gc [0,5,6]) (.reg [oV 6 17,
 mo (.bin true .add (.t 17) (cI 1)) 18,
 oV 18 6]))))
def mc_13:MC :=
 (sR [mo (.mv (.c (.str []))) 2,
 oC 0 3]
 (.seq (sR [oV 0 8,
 mo (.call (.f 28) [(.t 8)] [] []) 9,
 oV 9 4]
 (sR [oV 4 10,
 mo (.bin false .neq (.t 10) (cI 0)) 11]
 (.cond (.t 11)
 (sR [oV 4 12,
 mo (.mv (.c (.str []))) 2,
 oV 12 3]
 .ret)
 .skip)))
 (sR [mo (.mv (.c (.str []))) 5]
 (.seq (sR [oC 0 6]
 (.block 0
 (.loop mc_2k)))
 (sR [oV 5 44,
 oV 44 2,
 oC 0 3]
 .ret)))))
theorem Wq_13 {l_:List GRule}:Cn Tryz.prog 9 [.sl (l_.map GRule.v)] [] (F_13 l_) (fun z=>.tup [.str z.1,.int .i64 z.2]) (fun z=>[]):=fun Q Q' h hQ=>by
 refine acallM mc_13 [] [] [.t 2,.t 3] Tryz.func9 fun M=>?_
 unfold F_13 at h
 unfold mc_13
 replace h:=tY h
 refine tB ?_
 repeat' (first
 | (exact tZ)
 | ((first|refine oblg h ?_|refine roomG h ?_|refine fork h ?_ ?_|refine forkS h ?_ ?_)<;>clear h<;>intro hc h)
 | (obtain ⟨y,hy,h⟩:=h;(first|with_reducible first|have hw:=Wq_1s.w hy|have hw:=W_b hy);replace hw:=tY hw;(first|refine M.sC hw ?_|refine M.sD hw ?_);clear hw hy;refine tB ?_)
 | (refine M.jn1 (b:=mc_57) [0,5,6] [] (fun y=>[(7,.str y)]) (fun y=>[]) [] h ?_ ?_<;>first
 | (clear h;intro Qn K hK1 h;replace h:=tY h;refine tB ?_)
  |(clear h;intro y h;unfold mc_57;replace h:=tY h;refine tB ?_))
 | (refine M.wh1 (b:=mc_2k) [0] [] (fun x=>[(5,.str x.1),(6,.int .i64 x.2)]) (fun x=>[]) [] h ?_ ?_<;>first
 | (clear h;intro x Qn K hK2 h;unfold F_2k at h;unfold mc_2k;replace h:=tY h;refine tB ?_)
  |(clear h;(try refine tB ?_);exact tU0;done))
 | ((first|refine hK1 _ ?_|refine hK2 _ ?_);(try refine tB ?_);refine ⟨_,h,?_⟩;exact tU0;done)
 | (refine tE ?_;(first|rw [M.lok_compU]|rw [M.lokD_compU]);refine tB ?_)
 | (refine tA ?_)
 | fail)
noncomputable def FR_g:Nat→GTerm→GTerm→Option Bool
 | 0,_,_=>none
 | n+1,a_,b_ =>
 grp (((!decide (a_.Op=b_.Op))||(!decide (a_.Text=b_.Text)))) fun b13=>grp ((b13||(!decide (a_.Number=b_.Number)))) fun b14=>grp ((b14||(!decide (a_.Print=b_.Print)))) fun b15=>grp ((b15||(!decide ((a_.Kids.length:Int)=(b_.Kids.length:Int))))) fun b16=>bif b16 then some false else (loop (fun (x45:Int)=>(bif decide (x45<(a_.Kids.length:Int)) then chk (inb x45 a_.Kids.length) (chk (inb x45 b_.Kids.length) ((FR_g n (a_.Kids.getD (x45).toNat default) (b_.Kids.getD (x45).toNat default)).bind fun y53=>bif (!y53) then some (.ex (.inr false)) else chk (in64 (x45+1)) (some (.nx (x45+1))))) else some (.ex (.inl ())):Option (Fl Int (Sum Unit Bool)))) 0).bind fun r54=>Sum.elim (fun u55=>some true) (fun u56=>some u56) r54
noncomputable def F_g (a_:GTerm) (b_:GTerm):Option Bool:=lim fun n=>FR_g n a_ b_
@[irreducible] def mg_58:List MOp:=[gF 11 12 (.fad 1 (.t 2)),
 gF 11 13 (.ld none (.t 12)),
 gF 11 14 (.fad 1 (.t 3)),
 gF 11 15 (.ld none (.t 14)),
 gF 11 16 (.bin false .neq (.t 13) (.t 15)),
 mo (.pick (.t 11) (.c (.bool true)) (.t 16)) 17]
@[irreducible] def mg_59:List MOp:=[gF 18 19 (.fad 2 (.t 2)),
 gF 18 20 (.ld none (.t 19)),
 gF 18 21 (.fad 2 (.t 3)),
 gF 18 22 (.ld none (.t 21)),
 gF 18 23 (.bin false .neq (.t 20) (.t 22)),
 mo (.pick (.t 18) (.c (.bool true)) (.t 23)) 24]
@[irreducible] def mg_5a:List MOp:=[gF 25 26 (.fad 3 (.t 2)),
 gF 25 27 (.ld none (.t 26)),
 gF 25 28 (.fad 3 (.t 3)),
 gF 25 29 (.ld none (.t 28)),
 gF 25 30 (.bin false .neq (.t 27) (.t 29)),
 mo (.pick (.t 25) (.c (.bool true)) (.t 30)) 31]
@[irreducible] def mg_5b:List MOp:=[gF 32 33 (.fad 4 (.t 2)),
 gF 32 34 (.ld none (.t 33)),
 gF 32 35 (.len false (.t 34)),
 gF 32 36 (.fad 4 (.t 3)),
 gF 32 37 (.ld none (.t 36)),
 gF 32 38 (.len false (.t 37)),
 gF 32 39 (.bin false .neq (.t 35) (.t 38)),
 mo (.pick (.t 32) (.c (.bool true)) (.t 39)) 40]
@[irreducible] def mc_5c:MC :=
 (.seq (sR [oV 5 41,
 oF 4 2 42,
 oL 42 43,
 mo (.len false (.t 43)) 44,
 mo (.bin false .lss (.t 41) (.t 44)) 45]
 (.cond (.t 45)
 .skip
 (.exit 0)))
 (.seq (.block 1
 (.seq (.regD [oF 4 2 48,
 oL 48 49,
 oV 5 50,
 mo (.iad 5 (.t 49) (.t 50)) 51,
 mo (.ld (some 5) (.t 51)) 52,
 oF 4 3 53,
 oL 53 54,
 oV 5 55,
 mo (.iad 5 (.t 54) (.t 55)) 56,
 mo (.ld (some 5) (.t 56)) 57,
 mo (.call (.f 37) [(.t 52),(.t 57)] [] []) 58,
 mo (.not (.t 58)) 59]
 [[],[0],[],[1,2],[3],[],[5],[],[6,7],[8],[4,9],[10]]
 [[],[0],[],[0,1,2],[0,1,2,3],[],[5],[],[5,6,7],[5,6,7,8],[0,1,2,3,4,5,6,7,8,9],[0,1,2,3,4,5,6,7,8,9,10]])
 (.cond (.t 59)
 (sR [mo (.mv (.c (.bool false))) 4]
 .ret)
 .skip)))
 (.note (.gc [2,3,5]) (.reg [oV 5 46,
 mo (.bin true .add (.t 46) (cI 1)) 47,
 oV 47 5]))))
def mc_g:MC :=
 (sR [mo (.box (.t 0)) 2,
 mo (.box (.t 1)) 3,
 mo (.mv (.c (.bool false))) 4]
 (.seq (.seq (.regI [.op (oF 0 2 6),
 .op (oL 6 7),
 .op (oF 0 3 8),
 .op (oL 8 9),
 .op (mo (.bin false .neq (.t 7) (.t 9)) 10),
 .op (oV 10 11),
 .grp mg_58,
 .op (oV 17 18),
 .grp mg_59,
 .op (oV 24 25),
 .grp mg_5a,
 .op (oV 31 32),
 .grp mg_5b])
 (.cond (.t 40)
 (sR [mo (.mv (.c (.bool false))) 4]
 .ret)
 .skip))
 (.seq (sR [oC 0 5]
 (.block 0
 (.loop mc_5c)))
 (sR [mo (.mv (.c (.bool true))) 4]
 .ret))))
theorem Wq_g {n:Nat} (ih_ref21_SameTerm:∀{a_:GTerm} {b_:GTerm} {y:Bool},FR_g n a_ b_=some y→ACall Tryz.prog 37 [GTerm.v a_,GTerm.v b_] [] (fun r H=>r=.bool y∧H=[])) (a_:GTerm) (b_:GTerm) {Q:Bool→Prop} {Q':V→Heap→Prop} (h:Ok (FR_g (n+1) a_ b_) Q) (hQ:∀z,Q z→Q' (.bool z) []):ACall Tryz.prog 37 [GTerm.v a_,GTerm.v b_] [] Q':=by
 refine acallM mc_g [] [] [.t 4] Tryz.func37 fun M=>?_
 simp only [FR_g] at h
 unfold mc_g
 replace h:=tY h
 refine tB ?_
 repeat' (first
 | (exact tZ)
 | ((first|refine oblg h ?_|refine roomG h ?_|refine fork h ?_ ?_|refine forkS h ?_ ?_)<;>clear h<;>intro hc h)
 | (obtain ⟨y,hy,h⟩:=h;have hw:=ih_ref21_SameTerm hy;replace hw:=tY hw;(first|refine M.sC hw ?_|refine M.sD hw ?_);clear hw hy;refine tB ?_)
 | (refine M.wh1 (b:=mc_5c) [2,3] [3,2] (fun x=>[(5,.int .i64 x)]) (fun x=>[]) [] h ?_ ?_<;>first
 | (clear h;intro x Qn K hK1 h;unfold mc_5c;replace h:=tY h;refine tB ?_)
  |(clear h;(try refine tB ?_);exact tU0;done))
 | (refine M.gv1 (ms:=mg_5b) 40 [33,34,35,36,37,38,39] h ?_ ?_<;>first
 | (clear h;intro K hK2;unfold mg_5b;refine tB ?_)
 | (clear h;intro b h;replace h:=tY h;refine tB ?_))
 | (refine M.gv1 (ms:=mg_5a) 31 [26,27,28,29,30] h ?_ ?_<;>first
 | (clear h;intro K hK3;unfold mg_5a;refine tB ?_)
 | (clear h;intro b h;replace h:=tY h;refine tB ?_))
 | (refine M.gv1 (ms:=mg_59) 24 [19,20,21,22,23] h ?_ ?_<;>first
 | (clear h;intro K hK4;unfold mg_59;refine tB ?_)
 | (clear h;intro b h;replace h:=tY h;refine tB ?_))
 | (refine M.gv1 (ms:=mg_58) 17 [12,13,14,15,16] h ?_ ?_<;>first
 | (clear h;intro K hK5;unfold mg_58;refine tB ?_)
 | (clear h;intro b h;replace h:=tY h;refine tB ?_))
 | (refine hK1 _ ?_;(try refine tB ?_);refine ⟨_,h,?_⟩;exact tU0;done)
 | ((first|refine hK2 _ ?_|refine hK3 _ ?_|refine hK4 _ ?_|refine hK5 _ ?_);exact tU;done)
 | (refine bfork (fun hc=>?_) (fun hc=>?_))
 | (refine tE ?_;(first|rw [M.lok_compU]|rw [M.lokD_compU]);refine tB ?_)
 | (refine tA ?_)
 | fail)
theorem WG_g:∀n,(∀{a_:GTerm} {b_:GTerm} {y:Bool},FR_g n a_ b_=some y→ACall Tryz.prog 37 [GTerm.v a_,GTerm.v b_] [] (fun r H=>r=.bool y∧H=[]))
 | 0=>fun hy=>(by simp only [FR_g] at hy;cases hy)
 | n+1=>by
  have ih_ref21_SameTerm:=@WG_g n
  exact fun hy=>Wq_g ih_ref21_SameTerm _ _ (Q:=(·=_)) ⟨_,hy,rfl⟩ fun|_,rfl=>⟨rfl,rfl⟩
theorem W_g:∀{a_:GTerm} {b_:GTerm} {y:Bool},F_g a_ b_=some y→ACall Tryz.prog 37 [GTerm.v a_,GTerm.v b_] [] (fun r H=>r=.bool y∧H=[]):=fun hy=>by
 obtain ⟨n,hn⟩:=lim_inv hy
 exact (WG_g n) hn
noncomputable def F_2l (a_:List GRule) (b_:List GRule) (x29:Int):Option (Fl Int (Sum Unit Bool)) :=
 bif decide (x29<(a_.length:Int)) then chk (inb x29 a_.length) (chk (inb x29 b_.length) (bif (!decide ((a_.getD (x29).toNat default).Name=(b_.getD (x29).toNat default).Name)) then some (.ex (.inr false)) else chk (inb x29 a_.length) (chk (inb x29 b_.length) (bif (!decide ((a_.getD (x29).toNat default).Verdict=(b_.getD (x29).toNat default).Verdict)) then some (.ex (.inr false)) else chk (inb x29 a_.length) (chk (inb x29 b_.length) ((F_g ((a_.getD (x29).toNat default).When) ((b_.getD (x29).toNat default).When)).bind fun y37=>bif (!y37) then some (.ex (.inr false)) else chk (in64 (x29+1)) (some (.nx (x29+1))))))))) else some (.ex (.inl ()))
noncomputable def F_1t (a_:List GRule) (b_:List GRule):Option Bool :=
 bif (!decide ((a_.length:Int)=(b_.length:Int))) then some false else (loop (F_2l a_ b_) 0).bind fun r38=>Sum.elim (fun u39=>some true) (fun u40=>some u40) r38
@[irreducible] def mc_2l:MC :=
 (.seq (sR [oV 5 11,
 oV 0 12,
 mo (.len false (.t 12)) 13,
 mo (.bin false .lss (.t 11) (.t 13)) 14]
 (.cond (.t 14)
 .skip
 (.exit 0)))
 (.seq (.block 1
 (.seq (.regD [oV 0 17,
 oV 5 18,
 mo (.iad 7 (.t 17) (.t 18)) 19,
 oF 0 19 20,
 oL 20 21,
 oV 1 22,
 oV 5 23,
 mo (.iad 7 (.t 22) (.t 23)) 24,
 oF 0 24 25,
 oL 25 26,
 mo (.bin false .neq (.t 21) (.t 26)) 27,
 oV 27 28,
 gF 28 29 (.mv (.t 0)),
 gF 28 30 (.mv (.t 5)),
 gF 28 31 (.iad 7 (.t 29) (.t 30)),
 gF 28 32 (.fad 6 (.t 31)),
 gF 28 33 (.ld none (.t 32)),
 gF 28 34 (.mv (.t 1)),
 gF 28 35 (.mv (.t 5)),
 gF 28 36 (.iad 7 (.t 34) (.t 35)),
 gF 28 37 (.fad 6 (.t 36)),
 gF 28 38 (.ld none (.t 37)),
 gF 28 39 (.bin false .neq (.t 33) (.t 38)),
 mo (.pick (.t 28) (.c (.bool true)) (.t 39)) 40,
 oV 40 41,
 gF 41 42 (.mv (.t 0)),
 gF 41 43 (.mv (.t 5)),
 gF 41 44 (.iad 7 (.t 42) (.t 43)),
 gF 41 45 (.fad 1 (.t 44)),
 gF 41 46 (.ld (some 5) (.t 45)),
 gF 41 47 (.mv (.t 1)),
 gF 41 48 (.mv (.t 5)),
 gF 41 49 (.iad 7 (.t 47) (.t 48)),
 gF 41 50 (.fad 1 (.t 49)),
 gF 41 51 (.ld (some 5) (.t 50)),
 gF 41 52 (.call (.f 37) [(.t 46),(.t 51)] [] []),
 gF 41 53 (.not (.t 52)),
 mo (.pick (.t 41) (.c (.bool true)) (.t 53)) 54]
 [[],[],[0,1],[2],[3],[],[],[5,6],[7],[8],[4,9],[10],[11],[11],[12,13,11],[14,11],[15,11],[11],[11],[17,18,11],[19,11],[20,11],[16,21,11],[11,22],[23,11],[24],[24],[25,26,24],[27,24],[28,24],[24],[24],[30,31,24],[32,24],[33,24],[29,34,24,24],[35,24],[24,36]]
 [[],[],[0,1],[0,1,2],[0,1,2,3],[],[],[5,6],[5,6,7],[5,6,7,8],[0,1,2,3,4,5,6,7,8,9],[0,1,2,3,4,5,6,7,8,9,10],[0,1,2,3,4,5,6,7,8,9,10,11],[0,1,2,3,4,5,6,7,8,9,10,11],[0,1,2,3,4,5,6,7,8,9,10,11,12,13],[0,1,2,3,4,5,6,7,8,9,10,11,12,13,14],[0,1,2,3,4,5,6,7,8,9,10,11,12,13,14,15],[0,1,2,3,4,5,6,7,8,9,10,11],[0,1,2,3,4,5,6,7,8,9,10,11],[0,1,2,3,4,5,6,7,8,9,10,11,17,18],[0,1,2,3,4,5,6,7,8,9,10,11,17,18,19],[0,1,2,3,4,5,6,7,8,9,10,11,17,18,19,20],[0,1,2,3,4,5,6,7,8,9,10,11,12,13,14,15,16,17,18,19,20,21],[0,1,2,3,4,5,6,7,8,9,10,11,12,13,14,15,16,17,18,19,20,21,22],[0,1,2,3,4,5,6,7,8,9,10,11,12,13,14,15,16,17,18,19,20,21,22,23],[0,1,2,3,4,5,6,7,8,9,10,11,12,13,14,15,16,17,18,19,20,21,22,23,24],[0,1,2,3,4,5,6,7,8,9,10,11,12,13,14,15,16,17,18,19,20,21,22,23,24],[0,1,2,3,4,5,6,7,8,9,10,11,12,13,14,15,16,17,18,19,20,21,22,23,24,25,26],[0,1,2,3,4,5,6,7,8,9,10,11,12,13,14,15,16,17,18,19,20,21,22,23,24,25,26,27],[0,1,2,3,4,5,6,7,8,9,10,11,12,13,14,15,16,17,18,19,20,21,22,23,24,25,26,27,28],[0,1,2,3,4,5,6,7,8,9,10,11,12,13,14,15,16,17,18,19,20,21,22,23,24],[0,1,2,3,4,5,6,7,8,9,10,11,12,13,14,15,16,17,18,19,20,21,22,23,24],[0,1,2,3,4,5,6,7,8,9,10,11,12,13,14,15,16,17,18,19,20,21,22,23,24,30,31],[0,1,2,3,4,5,6,7,8,9,10,11,12,13,14,15,16,17,18,19,20,21,22,23,24,30,31,32],[0,1,2,3,4,5,6,7,8,9,10,11,12,13,14,15,16,17,18,19,20,21,22,23,24,30,31,32,33],[0,1,2,3,4,5,6,7,8,9,10,11,12,13,14,15,16,17,18,19,20,21,22,23,24,25,26,27,28,29,30,31,32,33,34],[0,1,2,3,4,5,6,7,8,9,10,11,12,13,14,15,16,17,18,19,20,21,22,23,24,25,26,27,28,29,30,31,32,33,34,35],[0,1,2,3,4,5,6,7,8,9,10,11,12,13,14,15,16,17,18,19,20,21,22,23,24,25,26,27,28,29,30,31,32,33,34,35,36]])
 (.cond (.t 54)
 (sR [mo (.mv (.c (.bool false))) 4]
 .ret)
 .skip)))
 (.note (.gc [0,1,5,29,30,31,32,33,34,35,36,37,38,39,42,43,44,45,46,47,48,49,50,51,52,53]) (.reg [oV 5 15,
 mo (.bin true .add (.t 15) (cI 1)) 16,
 oV 16 5]))))
def mc_1t:MC :=
 (sR [mo (.mv (.c (.bool false))) 4]
 (.seq (sR [oV 0 6,
 mo (.len false (.t 6)) 7,
 oV 1 8,
 mo (.len false (.t 8)) 9,
 mo (.bin false .neq (.t 7) (.t 9)) 10]
 (.cond (.t 10)
 (sR [mo (.mv (.c (.bool false))) 4]
 .ret)
 .skip))
 (.seq (sR [oC 0 5]
 (.block 0
 (.loop mc_2l)))
 (sR [mo (.mv (.c (.bool true))) 4]
 .ret))))
theorem Wq_1t {a_ b_:List GRule}:Cn Tryz.prog 14 [.sl (a_.map GRule.v),.sl (b_.map GRule.v)] [] (F_1t a_ b_) (fun z=>.bool z) (fun z=>[]):=fun Q Q' h hQ=>by
 refine acallM mc_1t [] [] [.t 4] Tryz.func14 fun M=>?_
 unfold F_1t at h
 unfold mc_1t
 replace h:=tY h
 refine tB ?_
 repeat' (first
 | (exact tZ)
 | ((first|refine oblg h ?_|refine roomG h ?_|refine fork h ?_ ?_|refine forkS h ?_ ?_)<;>clear h<;>intro hc h)
 | (obtain ⟨y,hy,h⟩:=h;have hw:=W_g hy;replace hw:=tY hw;(first|refine M.sC hw ?_|refine M.sD hw ?_);clear hw hy;refine tB ?_)
 | (refine M.wh1 (b:=mc_2l) [0,1] [] (fun x=>[(5,.int .i64 x)]) (fun x=>[]) [] h ?_ ?_<;>first
 | (clear h;intro x Qn K hK1 h;unfold F_2l at h;unfold mc_2l;replace h:=tY h;refine tB ?_)
  |(clear h;(try refine tB ?_);exact tU0;done))
 | (refine hK1 _ ?_;(try refine tB ?_);refine ⟨_,h,?_⟩;exact tU0;done)
 | (refine tE ?_;(first|rw [M.lok_compU]|rw [M.lokD_compU]);refine tB ?_)
 | (refine tA ?_)
 | fail)
mutual
def FR_w:Nat→(List GTerm)→(List GTerm)→Option Bool
 | 0,_,_=>none
 | n+1,s1_,s2_ =>
 bif (!decide ((s1_.length:Int)=(s2_.length:Int))) then some false else (forL (fun (k31:Int) (a32:GTerm) (x30:Unit)=>(chk (inb k31 s2_.length) ((FR_j n a32 (s2_.getD (k31).toNat default)).bind fun y40=>bif (!y40) then some (.ex false) else some (.nx ())):Option (Fl Unit Bool))) s1_ 0 ()).bind fun o=>o.elim (fun x41=>some true) (fun r42=>some r42)
def FR_j:Nat→GTerm→GTerm→Option Bool
 | 0,_,_=>none
 | n+1,a_,b_ =>
 grp ((decide (a_.Op=b_.Op)&&decide (a_.Text=b_.Text))) fun b6=>grp ((b6&&decide (a_.Number=b_.Number))) fun b7=>grp ((b7&&decide (a_.Print=b_.Print))) fun b8=>jn (α:=Bool) (bif b8 then (FR_w n a_.Kids b_.Kids).bind fun y10=>some y10 else some false) fun j11=>some j11
end
noncomputable def F_j (a_:GTerm) (b_:GTerm):Option Bool:=lim fun n=>FR_j n a_ b_
@[irreducible] def mc_2v:MC :=
 (sR [mo (.bin false .lss (.t 17) (.t 16)) 18]
 (.seq (.cond (.t 18)
 .skip
 (.exit 0))
 (.seq (.block 1
 (sR [oV 17 19,
 mo (.iad 5 (.t 15) (.t 17)) 20,
 mo (.ld (some 5) (.t 20)) 21,
 mo (.alloc [(.int .i64 0),(.str []),(.int .i64 0),(.int .u64 0),(.sl [])]) 8,
 oV 19 7,
 ⟨.st 5 (.t 8) (.t 21),none,none⟩]
 (sR [oV 1 22,
 oV 7 23,
 mo (.iad 5 (.t 22) (.t 23)) 24,
 mo (.ld (some 5) (.t 24)) 25,
 mo (.alloc [(.int .i64 0),(.str []),(.int .i64 0),(.int .u64 0),(.sl [])]) 9,
 ⟨.st 5 (.t 9) (.t 25),none,none⟩]
 (.seq (.note (.gc [1,2,8,9,15,16,17]) (.reg [oV 2 26,
 mo (.ld (some 5) (.t 8)) 27,
 mo (.ld (some 5) (.t 9)) 28,
 mo (.call (.t 26) [(.t 27),(.t 28)] [] []) 29,
 mo (.not (.t 29)) 30]))
 (.cond (.t 30)
 (sR [mo (.mv (.c (.bool false))) 6]
 .ret)
 .skip)))))
 (.reg [mo (.bin true .add (.t 17) (cI 1)) 31,
 oV 31 17]))))
def mc_w:MC :=
 (sR [mo (.mv (.c (.bool false))) 6]
 (.seq (sR [oV 0 10,
 mo (.len false (.t 10)) 11,
 oV 1 12,
 mo (.len false (.t 12)) 13,
 mo (.bin false .neq (.t 11) (.t 13)) 14]
 (.cond (.t 14)
 (sR [mo (.mv (.c (.bool false))) 6]
 .ret)
 .skip))
 (.seq (sR [oV 0 15,
 mo (.len false (.t 15)) 16,
 oC 0 17]
 (.block 0
 (.loop mc_2v)))
 (sR [mo (.mv (.c (.bool true))) 6]
 .ret))))
theorem Wq_w {n:Nat} (ih_slices_EqualFunc_api_Term_api_Term_api_Term_api_Term_of_rule_same:∀{s1_:List GTerm} {s2_:List GTerm} {y:Bool},FR_w n s1_ s2_=some y→ACall Tryz.prog 83 [.sl (s1_.map GTerm.v),.sl (s2_.map GTerm.v),.fn (.func 48) []] [] (fun r H=>r=.bool y∧H=[])) (ih_rule_same:∀{a_:GTerm} {b_:GTerm} {y:Bool},FR_j n a_ b_=some y→ACall Tryz.prog 48 [GTerm.v a_,GTerm.v b_] [] (fun r H=>r=.bool y∧H=[])) (s1_:List GTerm) (s2_:List GTerm) {Q:Bool→Prop} {Q':V→Heap→Prop} (h:Ok (FR_w (n+1) s1_ s2_) Q) (hQ:∀z,Q z→Q' (.bool z) []):ACall Tryz.prog 83 [.sl (s1_.map GTerm.v),.sl (s2_.map GTerm.v),.fn (.func 48) []] [] Q':=by
 refine acallM mc_w [] [] [.t 6] Tryz.func83 fun M=>?_
 simp only [FR_w] at h
 unfold mc_w
 replace h:=tY h
 refine tB ?_
 repeat' (first
 | (exact tZ)
 | ((first|refine oblg h ?_|refine roomG h ?_|refine fork h ?_ ?_|refine forkS h ?_ ?_)<;>clear h<;>intro hc h)
 | (obtain ⟨y,hy,h⟩:=h;have hw:=ih_rule_same hy;replace hw:=tY hw;(first|refine M.sC hw ?_|refine M.sD hw ?_);clear hw hy;refine tB ?_)
 | (refine M.for1 (b:=mc_2v) 17 [1,2,15,16] [] (fun x=>[]) (fun x=>[]) [] h ?_ ?_ ?_<;>first
 | (clear h;intro k a x Qn K hK1 hkN1 ha1 h hf;have hl:=fact_int (factsE_find (n:=16) hf.1 rfl);clear hf;have hkd:=kD hkN1;have hkB1:=kB hkN1;have hkI1:=kI (k:=k) (by omega);unfold mc_2v;replace h:=tY h;refine tK ha1 hkd hkN1 hkB1 hkI1 ?_)
  |(clear h;intro x K h;replace h:=And.left (And.intro h trivial);unfold mc_2v;replace h:=tY h;refine tB ?_)
  |(clear h;(try refine tB ?_);exact tU0;done))
 | (simp only [ha1])
 | (refine hK1 _ ?_;(try refine tB ?_);refine ⟨_,h,?_⟩;exact tU0;done)
 | (refine tE ?_;(first|rw [M.lok_compU]|rw [M.lokD_compU]);refine tB ?_)
 | (refine tA ?_)
 | fail)
@[irreducible] def mg_5d:List MOp:=[gT 10 11 (.fad 1 (.t 2)),
 gT 10 12 (.ld none (.t 11)),
 gT 10 13 (.fad 1 (.t 3)),
 gT 10 14 (.ld none (.t 13)),
 gT 10 15 (.bin false .eql (.t 12) (.t 14)),
 mo (.pick (.t 10) (.t 15) (.c (.bool false))) 16]
@[irreducible] def mg_5e:List MOp:=[gT 17 18 (.fad 2 (.t 2)),
 gT 17 19 (.ld none (.t 18)),
 gT 17 20 (.fad 2 (.t 3)),
 gT 17 21 (.ld none (.t 20)),
 gT 17 22 (.bin false .eql (.t 19) (.t 21)),
 mo (.pick (.t 17) (.t 22) (.c (.bool false))) 23]
@[irreducible] def mg_5f:List MOp:=[gT 24 25 (.fad 3 (.t 2)),
 gT 24 26 (.ld none (.t 25)),
 gT 24 27 (.fad 3 (.t 3)),
 gT 24 28 (.ld none (.t 27)),
 gT 24 29 (.bin false .eql (.t 26) (.t 28)),
 mo (.pick (.t 24) (.t 29) (.c (.bool false))) 30]
@[irreducible] def mg_5g:List MOp:=[gT 31 32 (.fad 4 (.t 2)),
 gT 31 33 (.ld none (.t 32)),
 gT 31 34 (.fad 4 (.t 3)),
 gT 31 35 (.ld none (.t 34)),
 gT 31 36 (.call (.f 83) [(.t 33),(.t 35),(.f 48)] [] []),
 mo (.pick (.t 31) (.t 36) (.c (.bool false))) 37]
def mc_j:MC :=
 (sR [mo (.box (.t 0)) 2,
 mo (.box (.t 1)) 3,
 mo (.mv (.c (.bool false))) 4]
 (.seq (.regI [.op (oF 0 2 5),
 .op (oL 5 6),
 .op (oF 0 3 7),
 .op (oL 7 8),
 .op (mo (.bin false .eql (.t 6) (.t 8)) 9),
 .op (oV 9 10),
 .grp mg_5d,
 .op (oV 16 17),
 .grp mg_5e,
 .op (oV 23 24),
 .grp mg_5f,
 .op (oV 30 31),
 .grp mg_5g,
 .op (oV 37 4)])
 .ret))
theorem Wq_j {n:Nat} (ih_slices_EqualFunc_api_Term_api_Term_api_Term_api_Term_of_rule_same:∀{s1_:List GTerm} {s2_:List GTerm} {y:Bool},FR_w n s1_ s2_=some y→ACall Tryz.prog 83 [.sl (s1_.map GTerm.v),.sl (s2_.map GTerm.v),.fn (.func 48) []] [] (fun r H=>r=.bool y∧H=[])) (ih_rule_same:∀{a_:GTerm} {b_:GTerm} {y:Bool},FR_j n a_ b_=some y→ACall Tryz.prog 48 [GTerm.v a_,GTerm.v b_] [] (fun r H=>r=.bool y∧H=[])) (a_:GTerm) (b_:GTerm) {Q:Bool→Prop} {Q':V→Heap→Prop} (h:Ok (FR_j (n+1) a_ b_) Q) (hQ:∀z,Q z→Q' (.bool z) []):ACall Tryz.prog 48 [GTerm.v a_,GTerm.v b_] [] Q':=by
 refine acallM mc_j [] [] [.t 4] Tryz.func48 fun M=>?_
 simp only [FR_j] at h
 unfold mc_j
 replace h:=tY h
 refine tB ?_
 repeat' (first
 | (exact tZ)
 | ((first|refine oblg h ?_|refine roomG h ?_|refine fork h ?_ ?_|refine forkS h ?_ ?_)<;>clear h<;>intro hc h)
 | (obtain ⟨y,hy,h⟩:=h;have hw:=ih_slices_EqualFunc_api_Term_api_Term_api_Term_api_Term_of_rule_same hy;replace hw:=tY hw;(first|refine M.sC hw ?_|refine M.sD hw ?_);clear hw hy;refine tB ?_)
 | (refine M.gj1 (ms:=mg_5g) [4] [] (fun y=>[(37,.bool y)]) (fun y=>[]) h ?_ ?_<;>first
 | (clear h;intro Qn K hK1 h;unfold mg_5g;replace h:=tY h;refine tB ?_)
  |(clear h;intro y h;replace h:=tY h;refine tB ?_))
 | (refine M.gv1 (ms:=mg_5f) 30 [25,26,27,28,29] h ?_ ?_<;>first
 | (clear h;intro K hK2;unfold mg_5f;refine tB ?_)
 | (clear h;intro b h;replace h:=tY h;refine tB ?_))
 | (refine M.gv1 (ms:=mg_5e) 23 [18,19,20,21,22] h ?_ ?_<;>first
 | (clear h;intro K hK3;unfold mg_5e;refine tB ?_)
 | (clear h;intro b h;replace h:=tY h;refine tB ?_))
 | (refine M.gv1 (ms:=mg_5d) 16 [11,12,13,14,15] h ?_ ?_<;>first
 | (clear h;intro K hK4;unfold mg_5d;refine tB ?_)
 | (clear h;intro b h;replace h:=tY h;refine tB ?_))
 | (refine hK1 _ ?_;(try refine tB ?_);refine ⟨_,h,?_⟩;exact tU0;done)
 | ((first|refine hK2 _ ?_|refine hK3 _ ?_|refine hK4 _ ?_);exact tU;done)
 | (refine bfork (fun hc=>?_) (fun hc=>?_))
 | (refine tE ?_;(first|rw [M.lok_compU]|rw [M.lokD_compU]);refine tB ?_)
 | (refine tA ?_)
 | fail)
theorem WG_5n:∀n,(∀{s1_:List GTerm} {s2_:List GTerm} {y:Bool},FR_w n s1_ s2_=some y→ACall Tryz.prog 83 [.sl (s1_.map GTerm.v),.sl (s2_.map GTerm.v),.fn (.func 48) []] [] (fun r H=>r=.bool y∧H=[]))∧(∀{a_:GTerm} {b_:GTerm} {y:Bool},FR_j n a_ b_=some y→ACall Tryz.prog 48 [GTerm.v a_,GTerm.v b_] [] (fun r H=>r=.bool y∧H=[]))
 | 0=>⟨fun hy=>(by simp only [FR_w] at hy;cases hy),fun hy=>(by simp only [FR_j] at hy;cases hy)⟩
 | n+1=>by
  obtain ⟨ih_slices_EqualFunc_api_Term_api_Term_api_Term_api_Term_of_rule_same,ih_rule_same⟩:=WG_5n n
  refine ⟨?_,?_⟩
  ·exact fun hy=>Wq_w ih_slices_EqualFunc_api_Term_api_Term_api_Term_api_Term_of_rule_same ih_rule_same _ _ (Q:=(·=_)) ⟨_,hy,rfl⟩ fun|_,rfl=>⟨rfl,rfl⟩
  ·exact fun hy=>Wq_j ih_slices_EqualFunc_api_Term_api_Term_api_Term_api_Term_of_rule_same ih_rule_same _ _ (Q:=(·=_)) ⟨_,hy,rfl⟩ fun|_,rfl=>⟨rfl,rfl⟩
theorem W_j:∀{a_:GTerm} {b_:GTerm} {y:Bool},F_j a_ b_=some y→ACall Tryz.prog 48 [GTerm.v a_,GTerm.v b_] [] (fun r H=>r=.bool y∧H=[]):=fun hy=>by
 obtain ⟨n,hn⟩:=lim_inv hy
 exact (WG_5n n).2 hn
noncomputable def F_1u (x_:GRule) (y_:GRule):Option Bool :=
 grp ((decide (x_.Name=y_.Name)&&decide (x_.Verdict=y_.Verdict))) fun b4=>jn (α:=Bool) (bif b4 then (F_j x_.When y_.When).bind fun y6=>some y6 else some false) fun j7=>some j7
@[irreducible] def mg_5h:List MOp:=[gT 10 11 (.fad 6 (.t 2)),
 gT 10 12 (.ld none (.t 11)),
 gT 10 13 (.fad 6 (.t 3)),
 gT 10 14 (.ld none (.t 13)),
 gT 10 15 (.bin false .eql (.t 12) (.t 14)),
 mo (.pick (.t 10) (.t 15) (.c (.bool false))) 16]
@[irreducible] def mg_5i:List MOp:=[gT 17 18 (.fad 1 (.t 2)),
 gT 17 19 (.ld (some 5) (.t 18)),
 gT 17 20 (.fad 1 (.t 3)),
 gT 17 21 (.ld (some 5) (.t 20)),
 gT 17 22 (.call (.f 48) [(.t 19),(.t 21)] [] []),
 mo (.pick (.t 17) (.t 22) (.c (.bool false))) 23]
def mc_1u:MC :=
 (sR [mo (.box (.t 0)) 2,
 mo (.box (.t 1)) 3,
 mo (.mv (.c (.bool false))) 4]
 (.seq (.regI [.op (oF 0 2 5),
 .op (oL 5 6),
 .op (oF 0 3 7),
 .op (oL 7 8),
 .op (mo (.bin false .eql (.t 6) (.t 8)) 9),
 .op (oV 9 10),
 .grp mg_5h,
 .op (oV 16 17),
 .grp mg_5i,
 .op (oV 23 4)])
 .ret))
theorem Wq_1u {x_ y_:GRule}:Cn Tryz.prog 47 [GRule.v x_,GRule.v y_] [] (F_1u x_ y_) (fun z=>.bool z) (fun z=>[]):=fun Q Q' h hQ=>by
 refine acallM mc_1u [] [] [.t 4] Tryz.func47 fun M=>?_
 unfold F_1u at h
 unfold mc_1u
 replace h:=tY h
 refine tB ?_
 repeat' (first
 | (exact tZ)
 | ((first|refine oblg h ?_|refine roomG h ?_|refine fork h ?_ ?_|refine forkS h ?_ ?_)<;>clear h<;>intro hc h)
 | (obtain ⟨y,hy,h⟩:=h;have hw:=W_j hy;replace hw:=tY hw;(first|refine M.sC hw ?_|refine M.sD hw ?_);clear hw hy;refine tB ?_)
 | (refine M.gj1 (ms:=mg_5i) [4] [] (fun y=>[(23,.bool y)]) (fun y=>[]) h ?_ ?_<;>first
 | (clear h;intro Qn K hK1 h;unfold mg_5i;replace h:=tY h;refine tB ?_)
  |(clear h;intro y h;replace h:=tY h;refine tB ?_))
 | (refine M.gv1 (ms:=mg_5h) 16 [11,12,13,14,15] h ?_ ?_<;>first
 | (clear h;intro K hK2;unfold mg_5h;refine tB ?_)
 | (clear h;intro b h;replace h:=tY h;refine tB ?_))
 | (refine hK1 _ ?_;(try refine tB ?_);refine ⟨_,h,?_⟩;exact tU0;done)
 | (refine hK2 _ ?_;exact tU;done)
 | (refine bfork (fun hc=>?_) (fun hc=>?_))
 | (refine tE ?_;(first|rw [M.lok_compU]|rw [M.lokD_compU]);refine tB ?_)
 | (refine tA ?_)
 | fail)
noncomputable def F_2e (s2_:List GRule) (k31:Int) (a32:GRule) (x30:Unit):Option (Fl Unit Bool) :=
 chk (inb k31 s2_.length) ((F_1u a32 (s2_.getD (k31).toNat default)).bind fun y40=>bif (!y40) then some (.ex false) else some (.nx ()))
noncomputable def F_1v (s1_:List GRule) (s2_:List GRule):Option Bool :=
 bif (!decide ((s1_.length:Int)=(s2_.length:Int))) then some false else (forL (F_2e s2_) s1_ 0 ()).bind fun o=>o.elim (fun x41=>some true) (fun r42=>some r42)
@[irreducible] def mc_2e:MC :=
 (sR [mo (.bin false .lss (.t 17) (.t 16)) 18]
 (.seq (.cond (.t 18)
 .skip
 (.exit 0))
 (.seq (.block 1
 (sR [oV 17 19,
 mo (.iad 7 (.t 15) (.t 17)) 20,
 mo (.ld (some 7) (.t 20)) 21,
 mo (.alloc [(.str []),(.int .i64 0),(.str []),(.int .i64 0),(.int .u64 0),(.sl []),(.int .i64 0)]) 8,
 oV 19 7,
 ⟨.st 7 (.t 8) (.t 21),none,none⟩]
 (sR [oV 1 22,
 oV 7 23,
 mo (.iad 7 (.t 22) (.t 23)) 24,
 mo (.ld (some 7) (.t 24)) 25,
 mo (.alloc [(.str []),(.int .i64 0),(.str []),(.int .i64 0),(.int .u64 0),(.sl []),(.int .i64 0)]) 9,
 ⟨.st 7 (.t 9) (.t 25),none,none⟩]
 (.seq (.note (.gc [1,2,8,9,15,16,17]) (.reg [oV 2 26,
 mo (.ld (some 7) (.t 8)) 27,
 mo (.ld (some 7) (.t 9)) 28,
 mo (.call (.t 26) [(.t 27),(.t 28)] [] []) 29,
 mo (.not (.t 29)) 30]))
 (.cond (.t 30)
 (sR [mo (.mv (.c (.bool false))) 6]
 .ret)
 .skip)))))
 (.reg [mo (.bin true .add (.t 17) (cI 1)) 31,
 oV 31 17]))))
def mc_1v:MC :=
 (sR [mo (.mv (.c (.bool false))) 6]
 (.seq (sR [oV 0 10,
 mo (.len false (.t 10)) 11,
 oV 1 12,
 mo (.len false (.t 12)) 13,
 mo (.bin false .neq (.t 11) (.t 13)) 14]
 (.cond (.t 14)
 (sR [mo (.mv (.c (.bool false))) 6]
 .ret)
 .skip))
 (.seq (sR [oV 0 15,
 mo (.len false (.t 15)) 16,
 oC 0 17]
 (.block 0
 (.loop mc_2e)))
 (sR [mo (.mv (.c (.bool true))) 6]
 .ret))))
theorem Wq_1v {s1_ s2_:List GRule}:Cn Tryz.prog 46 [.sl (s1_.map GRule.v),.sl (s2_.map GRule.v),.fn (.func 47) []] [] (F_1v s1_ s2_) (fun z=>.bool z) (fun z=>[]):=fun Q Q' h hQ=>by
 refine acallM mc_1v [] [] [.t 6] Tryz.func46 fun M=>?_
 unfold F_1v at h
 unfold mc_1v
 replace h:=tY h
 refine tB ?_
 repeat' (first
 | (exact tZ)
 | ((first|refine oblg h ?_|refine roomG h ?_|refine fork h ?_ ?_|refine forkS h ?_ ?_)<;>clear h<;>intro hc h)
 | (obtain ⟨y,hy,h⟩:=h;have hw:=Wq_1u.w hy;replace hw:=tY hw;(first|refine M.sC hw ?_|refine M.sD hw ?_);clear hw hy;refine tB ?_)
 | (refine M.for1 (b:=mc_2e) 17 [1,2,15,16] [] (fun x=>[]) (fun x=>[]) [] h ?_ ?_ ?_<;>first
 | (clear h;intro k a x Qn K hK1 hkN1 ha1 h hf;have hl:=fact_int (factsE_find (n:=16) hf.1 rfl);clear hf;have hkd:=kD hkN1;have hkB1:=kB hkN1;have hkI1:=kI (k:=k) (by omega);unfold F_2e at h;unfold mc_2e;replace h:=tY h;refine tK ha1 hkd hkN1 hkB1 hkI1 ?_)
  |(clear h;intro x K h;replace h:=And.left (And.intro h trivial);unfold mc_2e;replace h:=tY h;refine tB ?_)
  |(clear h;(try refine tB ?_);exact tU0;done))
 | (simp only [ha1])
 | (refine hK1 _ ?_;(try refine tB ?_);refine ⟨_,h,?_⟩;exact tU0;done)
 | (refine tE ?_;(first|rw [M.lok_compU]|rw [M.lokD_compU]);refine tB ?_)
 | (refine tA ?_)
 | fail)
noncomputable def F_1a (a_:List GRule) (b_:List GRule):Option Bool :=
 (F_1v a_ b_).bind fun y2=>some y2
def mc_1a:MC :=
 (sR [mo (.mv (.c (.bool false))) 4]
 (sR [oV 0 5,
 oV 1 6,
 mo (.call (.f 46) [(.t 5),(.t 6),(.f 47)] [] []) 7,
 oV 7 4]
 .ret))
theorem Wq_1a {a_ b_:List GRule}:Cn Tryz.prog 27 [.sl (a_.map GRule.v),.sl (b_.map GRule.v)] [] (F_1a a_ b_) (fun z=>.bool z) (fun z=>[]):=fun Q Q' h hQ=>by
 refine acallM mc_1a [] [] [.t 4] Tryz.func27 fun M=>?_
 unfold F_1a at h
 unfold mc_1a
 replace h:=tY h
 refine tB ?_
 repeat' (first
 | (exact tZ)
 | ((first|refine oblg h ?_|refine roomG h ?_|refine fork h ?_ ?_|refine forkS h ?_ ?_)<;>clear h<;>intro hc h)
 | (obtain ⟨y,hy,h⟩:=h;have hw:=Wq_1v.w hy;replace hw:=tY hw;(first|refine M.sC hw ?_|refine M.sD hw ?_);clear hw hy;refine tB ?_)
 | (refine tE ?_;(first|rw [M.lok_compU]|rw [M.lokD_compU]);refine tB ?_)
 | (refine tA ?_)
 | fail)
noncomputable def F_14 (l_:List GRule):Option (Str×Int) :=
 (F_t l_).bind fun y4=>bif (!decide (y4=0)) then some ([],y4) else (F_v l_).bind fun y6=>some (y6,0)
def mc_14:MC :=
 (sR [mo (.mv (.c (.str []))) 2,
 oC 0 3]
 (.seq (sR [oV 0 5,
 mo (.call (.f 33) [(.t 5)] [] []) 6,
 oV 6 4]
 (sR [oV 4 7,
 mo (.bin false .neq (.t 7) (cI 0)) 8]
 (.cond (.t 8)
 (sR [oV 4 9,
 mo (.mv (.c (.str []))) 2,
 oV 9 3]
 .ret)
 .skip)))
 (sR [oV 0 10,
 mo (.call (.f 34) [(.t 10)] [] []) 11,
 oV 11 2,
 oC 0 3]
 .ret)))
theorem Wq_14 {l_:List GRule}:Cn Tryz.prog 26 [.sl (l_.map GRule.v)] [] (F_14 l_) (fun z=>.tup [.str z.1,.int .i64 z.2]) (fun z=>[]):=fun Q Q' h hQ=>by
 refine acallM mc_14 [] [] [.t 2,.t 3] Tryz.func26 fun M=>?_
 unfold F_14 at h
 unfold mc_14
 replace h:=tY h
 refine tB ?_
 repeat' (first
 | (exact tZ)
 | ((first|refine oblg h ?_|refine roomG h ?_|refine fork h ?_ ?_|refine forkS h ?_ ?_)<;>clear h<;>intro hc h)
 | (obtain ⟨y,hy,h⟩:=h;(first|with_reducible first|have hw:=Wq_t.w hy|have hw:=Wq_v.w hy);replace hw:=tY hw;(first|refine M.sC hw ?_|refine M.sD hw ?_);clear hw hy;refine tB ?_)
 | (refine tE ?_;(first|rw [M.lok_compU]|rw [M.lokD_compU]);refine tB ?_)
 | (refine tA ?_)
 | fail)
end Go.Ab
