/- What the functions of this seat that lie on the laws' road compute (part LC), each for every input. By AI agents. -/
import Derived.Test.YtoojdaakeiadjaaGreatDoorProg
import Derived.KernelRfl
import Derived.Test.YtoojdaakeiadjaaGreatDoorAbFun
import Derived.Test.YtoojdaakeiadjaaGreatDoorLB
set_option linter.all false
set_option linter.all false
set_option maxRecDepth 20000
set_option maxHeartbeats 2000000
namespace Go.Ab
open Go.Proofs
structure GTape where
 L:List Int
 at_:Int
instance:Inhabited GTape:=⟨⟨default,default⟩⟩
def GTape.v (x:GTape):V:=.agg [.sl (x.L.map (V.int .i64)),.int .i64 x.at_]
attribute [go_sem] GTape.v
def FR_3:Nat→Int→Option Str
 | 0,_=>none
 | n+1,n_ =>
 bif decide (n_<10) then some [(u8 (48+((u8 n_).toNat:Int)))] else chk (divs n_ 10) ((FR_3 n (n_ / 10)).bind fun y2=>chk (divs n_ 10) (chk (strl (y2.length+[(u8 (48+((u8 (n_ % 10)).toNat:Int)))].length)) (some (y2++[(u8 (48+((u8 (n_ % 10)).toNat:Int)))]))))
noncomputable def F_3 (n_:Int):Option Str:=lim fun n=>FR_3 n n_
def mc_3:MC :=
 (sR [mo (.mv (.c (.str []))) 2]
 (.seq (sR [oV 0 3,
 mo (.bin false .lss (.t 3) (cI 10)) 4]
 (.cond (.t 4)
 (sR [oV 0 5,
 mo (.i2i false .u8 (.t 5)) 6,
 mo (.bin false .add (.c (.int .u8 48)) (.t 6)) 7,
 mo (.bslice 1 [(.t 7)]) 8,
 mo (.b2s (.t 8)) 9,
 oV 9 2]
 .ret)
 .skip))
 (.seq (.regD [oV 0 10,
 mo (.bin true .quo (.t 10) (cI 10)) 11,
 mo (.call (.f 30) [(.t 11)] [] []) 12,
 oV 0 13,
 mo (.bin true .rem (.t 13) (cI 10)) 14,
 mo (.i2i false .u8 (.t 14)) 15,
 mo (.bin false .add (.c (.int .u8 48)) (.t 15)) 16,
 mo (.bslice 1 [(.t 16)]) 17,
 mo (.b2s (.t 17)) 18,
 mo (.bin false .add (.t 12) (.t 18)) 19,
 oV 19 2]
 [[],[0],[1],[],[3],[4],[5],[6],[7],[2,8],[9,2,0,1,2,3,4,5,6,7,8,9]]
 [[],[0],[0,1],[],[3],[3,4],[3,4,5],[3,4,5,6],[3,4,5,6,7],[0,1,2,3,4,5,6,7,8],[0,1,2,3,4,5,6,7,8,9]])
 .ret)))
theorem Wq_3 {n:Nat} (ih_ref07_Number:∀{n_:Int} {y:Str},FR_3 n n_=some y→ACall Tryz.prog 30 [.int .i64 n_] [] (fun r H=>r=.str y∧H=[])) (n_:Int) {Q:Str→Prop} {Q':V→Heap→Prop} (h:Ok (FR_3 (n+1) n_) Q) (hQ:∀z,Q z→Q' (.str z) []):ACall Tryz.prog 30 [.int .i64 n_] [] Q':=by
 refine acallM mc_3 [] [] [.t 2] Tryz.func30 fun M=>?_
 simp only [FR_3] at h
 unfold mc_3
 replace h:=tY h
 refine tB ?_
 repeat' (first
 | (exact tZ)
 | ((first|refine oblg h ?_|refine roomG h ?_|refine divG h ?_|refine fork h ?_ ?_|refine forkS h ?_ ?_)<;>clear h<;>intro hc h)
 | (obtain ⟨y,hy,h⟩:=h;have hw:=ih_ref07_Number hy;replace hw:=tY hw;(first|refine M.sC hw ?_|refine M.sD hw ?_);clear hw hy;refine tB ?_)
 | (refine tE ?_;(first|rw [M.lok_compU]|rw [M.lokD_compU]);refine tB ?_)
 | (refine tA ?_)
 | fail)
theorem WG_3:∀n,(∀{n_:Int} {y:Str},FR_3 n n_=some y→ACall Tryz.prog 30 [.int .i64 n_] [] (fun r H=>r=.str y∧H=[]))
 | 0=>fun hy=>(by simp only [FR_3] at hy;cases hy)
 | n+1=>by
  have ih_ref07_Number:=@WG_3 n
  exact fun hy=>Wq_3 ih_ref07_Number _ (Q:=(·=_)) ⟨_,hy,rfl⟩ fun|_,rfl=>⟨rfl,rfl⟩
theorem W_3:∀{n_:Int} {y:Str},F_3 n_=some y→ACall Tryz.prog 30 [.int .i64 n_] [] (fun r H=>r=.str y∧H=[]):=fun hy=>by
 obtain ⟨n,hn⟩:=lim_inv hy
 exact (WG_3 n) hn
def F_d (t_:GTape) (n_:Int):Option (Int×GTape) :=
 bif decide ((t_.L.length:Int)≤t_.at_) then some (0,t_) else chk (inb t_.at_ t_.L.length) (chk (in64 (t_.at_+1)) (chk (divs ((t_.L.getD (t_.at_).toNat default) % 2^16) n_) (some ((((t_.L.getD (t_.at_).toNat default) % 2^16) % n_),(GTape.mk t_.L (t_.at_+1))))))
def mc_d:MC :=
 (sR [oC 0 4]
 (.seq (.seq (.regD [oV 0 6,
 mo (.nck (.t 6)) 7,
 oF 1 7 8,
 oL 8 9,
 oV 0 10,
 mo (.nck (.t 10)) 11,
 oF 0 11 12,
 oL 12 13,
 mo (.len false (.t 13)) 14,
 mo (.bin false .geq (.t 9) (.t 14)) 15]
 [[],[0],[1],[2],[],[4],[5],[6],[7],[3,8]]
 [[],[0],[0,1],[0,1,2],[],[4],[4,5],[4,5,6],[4,5,6,7],[0,1,2,3,4,5,6,7,8]])
 (.cond (.t 15)
 (sR [oC 0 4]
 .ret)
 .skip))
 (.seq (.note (.gc [0,1]) (.regD [oV 0 16,
 mo (.nck (.t 16)) 17,
 oF 0 17 18,
 oL 18 19,
 oV 0 20,
 mo (.nck (.t 20)) 21,
 oF 1 21 22,
 oL 22 23,
 mo (.iad 1 (.t 19) (.t 23)) 24,
 oL 24 25,
 mo (.mask 16 (.t 25) .i64) 26,
 oV 26 5]
 [[],[0],[1],[2],[],[4],[5],[6],[3,7],[8],[9],[10,0,1,2,3,4,5,6,7,8,9,10]]
 [[],[0],[0,1],[0,1,2],[],[4],[4,5],[4,5,6],[0,1,2,3,4,5,6,7],[0,1,2,3,4,5,6,7,8],[0,1,2,3,4,5,6,7,8,9],[0,1,2,3,4,5,6,7,8,9,10]]))
 (.seq (.note (.gc [0,1,5]) (.reg [oV 0 27,
 mo (.nck (.t 27)) 28,
 oF 1 28 29,
 oL 29 30,
 mo (.bin true .add (.t 30) (cI 1)) 31,
 mo (.nck (.t 27)) 32,
 oF 1 32 33,
 ⟨.st 1 (.t 33) (.t 31),none,none⟩]))
 (.seq (.note (.gc [1,5]) (.reg [oV 5 34,
 oV 1 35,
 mo (.bin true .rem (.t 34) (.t 35)) 36,
 oV 36 4]))
 .ret)))))
theorem Wq_d {t_:GTape} {n_:Int}:Cn Tryz.prog 17 [.ptr 1000 0,.int .i64 n_] [(1000,.cells [.sl (t_.L.map (V.int .i64)),.int .i64 t_.at_])] (F_d t_ n_) (fun z=>.int .i64 z.1) (fun z=>[(1000,.cells [.sl (z.2.L.map (V.int .i64)),.int .i64 z.2.at_])]):=fun Q Q' h hQ=>by
 refine acallM mc_d [] [1000] [.t 4] Tryz.func17 fun M=>?_
 unfold F_d at h
 unfold mc_d
 replace h:=tY h
 refine tB ?_
 repeat' (first
 | (exact tZ)
 | ((first|refine oblg h ?_|refine roomG h ?_|refine divG h ?_|refine fork h ?_ ?_|refine forkS h ?_ ?_)<;>clear h<;>intro hc h)
 | (refine tE ?_;(first|rw [M.lok_compU]|rw [M.lokD_compU]);refine tB ?_)
 | (refine tA ?_)
 | fail)
def F_w (t_:GTape) (a_:Int) (b_:Int):Option (Int×GTape) :=
 chk (in64 (b_ - a_)) (chk (in64 ((b_ - a_)+1)) ((F_d t_ ((b_ - a_)+1)).bind fun y2=>chk (in64 (a_+y2.1)) (some ((a_+y2.1),y2.2))))
def mc_w:MC :=
 (sR [oC 0 6]
 (sR [oV 1 7,
 oV 0 8,
 oV 2 9,
 oV 1 10,
 mo (.bin true .sub (.t 9) (.t 10)) 11,
 mo (.bin true .add (.t 11) (cI 1)) 12,
 mo (.call (.f 17) [(.t 8),(.t 12)] [1000] []) 13,
 mo (.bin true .add (.t 7) (.t 13)) 14,
 oV 14 6]
 .ret))
theorem Wq_w {t_:GTape} {a_ b_:Int}:Cn Tryz.prog 11 [.ptr 1000 0,.int .i64 a_,.int .i64 b_] [(1000,.cells [.sl (t_.L.map (V.int .i64)),.int .i64 t_.at_])] (F_w t_ a_ b_) (fun z=>.int .i64 z.1) (fun z=>[(1000,.cells [.sl (z.2.L.map (V.int .i64)),.int .i64 z.2.at_])]):=fun Q Q' h hQ=>by
 refine acallM mc_w [] [1000] [.t 6] Tryz.func11 fun M=>?_
 unfold F_w at h
 unfold mc_w
 replace h:=tY h
 refine tB ?_
 repeat' (first
 | (exact tZ)
 | ((first|refine oblg h ?_|refine roomG h ?_|refine fork h ?_ ?_|refine forkS h ?_ ?_)<;>clear h<;>intro hc h)
 | (obtain ⟨y,hy,h⟩:=h;have hw:=Wq_d.w hy;replace hw:=tY hw;(first|refine M.sC hw ?_|refine M.sD hw ?_);clear hw hy;refine tB ?_)
 | (refine tE ?_;(first|rw [M.lok_compU]|rw [M.lokD_compU]);refine tB ?_)
 | (refine tA ?_)
 | fail)
noncomputable def FR_0:Nat→GTape→Int→Option (GTerm×GTape)
 | 0,_,_=>none
 | n+1,t_,deep_ =>
 (F_w t_ 1 11).bind fun y2=>jn (α:=Int) (grp ((decide (deep_≤1)&&decide (9≤y2.1))) fun b7=>bif b7 then chk (in64 (y2.1 - 3)) (some (y2.1 - 3)) else some y2.1) fun j5=>bif decide (j5=1) then (F_d y2.2 4).bind fun y27=>chk (inb y27.1 [[107,105,110,100,48],[107,105,110,100,49],[112,108,97,105,110,48],[110,111,110,101]].length) (some ((GTerm.mk j5 ([[107,105,110,100,48],[107,105,110,100,49],[112,108,97,105,110,48],[110,111,110,101]].getD ((y27.1).toNat) default) 0 0 []),y27.2)) else jn (α:=Bool) (bif decide (j5=2) then some true else some (decide (j5=3))) fun j28=>bif j28 then (F_d y2.2 6).bind fun y29=>chk (inb y29.1 [[97],[49,58],[102,48],[100,111,99,115,47],[33,105,110],[50]].length) (some ((GTerm.mk j5 ([[97],[49,58],[102,48],[100,111,99,115,47],[33,105,110],[50]].getD ((y29.1).toNat) default) 0 0 []),y29.2)) else bif decide (j5=7) then (F_d y2.2 4).bind fun y30=>some ((GTerm.mk j5 [] 0 (IntKind.wrap .u64 y30.1) []),y30.2) else bif decide (j5=9) then chk (in64 (deep_ - 1)) ((FR_0 n y2.2 (deep_ - 1)).bind fun y31=>some ((GTerm.mk j5 [] 0 0 [y31.1]),y31.2)) else jn (α:=Bool) (bif decide (j5=10) then some true else some (decide (j5=11))) fun j32=>bif j32 then (F_w y2.2 2 3).bind fun y34=>(loop (fun (x41:Int×Int×(List GTerm)×GTape)=>(bif decide (0<x41.1) then chk (in64 (deep_ - 1)) ((FR_0 n x41.2.2.2 (deep_ - 1)).bind fun y45=>chk (room (x41.2.2.1.length+[y45.1].length) 64) (chk (in64 (x41.1 - 1)) (some (.nx ((x41.1 - 1),x41.2.1,(x41.2.2.1++[y45.1]),y45.2))))) else some (.ex (x41.2.1,x41.2.2.1,x41.2.2.2)):Option (Fl (Int×Int×(List GTerm)×GTape) (Int×(List GTerm)×GTape)))) (y34.1,j5,[],y34.2)).bind fun r46=>some ((GTerm.mk r46.1 [] 0 0 r46.2.1),r46.2.2) else (F_d y2.2 8).bind fun y47=>some ((GTerm.mk j5 [] y47.1 0 []),y47.2)
noncomputable def F_0 (t_:GTape) (deep_:Int):Option (GTerm×GTape):=lim fun n=>FR_0 n t_ deep_
@[irreducible] def mg_3e:List MOp:=[gT 12 13 (.mv (.t 5)),
 gT 12 14 (.bin false .geq (.t 13) (cI 9)),
 mo (.pick (.t 12) (.t 14) (.c (.bool false))) 15]
@[irreducible] def mc_3f:MC :=
 (.seq (sR [oV 7 60,
 mo (.bin false .gtr (.t 60) (cI 0)) 61]
 (.cond (.t 61)
 .skip
 (.exit 1)))
 (.seq (.block 2
 (.regD [oF 4 6 64,
 oL 64 65,
 oV 0 66,
 oV 1 67,
 mo (.bin true .sub (.t 67) (cI 1)) 68,
 mo (.call (.f 21) [(.t 66),(.t 68)] [1000] []) 69,
 mo (.bslice 5 [(.t 69)]) 70,
 mo (.app 5 64 (.t 65) (.t 70)) 71,
 oF 4 6 72,
 ⟨.st 1 (.t 72) (.t 71),none,none⟩]
 [[],[0],[],[],[3],[2,4],[5],[1,6,5],[0,1,2,3,4,5,6,7],[8,7,7,0,1,2,3,4,5,6,7]]
 [[],[0],[],[],[3],[2,3,4],[2,3,4,5],[0,1,2,3,4,5,6],[0,1,2,3,4,5,6,7],[0,1,2,3,4,5,6,7,8]]))
 (.note (.gc [0,1,4,6,7]) (.reg [oV 7 62,
 mo (.bin true .sub (.t 62) (cI 1)) 63,
 oV 63 7]))))
@[irreducible] def mc_3g:MC :=
 (.cond (.t 55)
 (sR [oV 0 58,
 mo (.call (.f 11) [(.t 58),(cI 2),(cI 3)] [1000] []) 59,
 oV 59 7]
 (.block 1
 (.loop mc_3f)))
 (.reg [oV 0 21,
 mo (.call (.f 17) [(.t 21),(cI 8)] [1000] []) 22,
 oF 2 6 23,
 ⟨.st 1 (.t 23) (.t 22),none,none⟩]))
@[irreducible] def mc_3h:MC :=
 (.cond (.t 32)
 (.reg [mo (.bslice 1 [(.c (.str [97])),(.c (.str [49,58])),(.c (.str [102,48])),(.c (.str [100,111,99,115,47])),(.c (.str [33,105,110])),(.c (.str [50]))]) 35,
 oV 0 36,
 mo (.call (.f 17) [(.t 36),(cI 6)] [1000] []) 37,
 mo (.iad 1 (.t 35) (.t 37)) 38,
 oL 38 39,
 oF 1 6 40,
 ⟨.st 1 (.t 40) (.t 39),none,none⟩])
 (sR [mo (.bin false .eql (.t 20) (cI 7)) 42,
 oV 42 41]
 (.cond (.t 41)
 (.reg [oV 0 43,
 mo (.call (.f 17) [(.t 43),(cI 4)] [1000] []) 44,
 mo (.i2i false .u64 (.t 44)) 45,
 oF 3 6 46,
 ⟨.st 1 (.t 46) (.t 45),none,none⟩])
 (sR [mo (.bin false .eql (.t 20) (cI 9)) 48,
 oV 48 47]
 (.cond (.t 47)
 (.reg [oV 0 49,
 oV 1 50,
 mo (.bin true .sub (.t 50) (cI 1)) 51,
 mo (.call (.f 21) [(.t 49),(.t 51)] [1000] []) 52,
 mo (.bslice 5 [(.t 52)]) 53,
 oF 4 6 54,
 ⟨.st 1 (.t 54) (.t 53),none,none⟩])
 (.cut (sR [mo (.bin false .eql (.t 20) (cI 10)) 56,
 oV 56 55]
 (.cond (.t 55)
 .skip
 (.reg [mo (.bin false .eql (.t 20) (cI 11)) 57,
 oV 57 55])))
 mc_3g))))))
@[irreducible] def mc_3i:MC :=
 (sR [oV 5 18,
 mo (.build [(.int .i64 0),(.str []),(.int .i64 0),(.int .u64 0),.nils] [(0,1,(.t 18))]) 19,
 mo (.alloc [(.int .i64 0),(.str []),(.int .i64 0),(.int .u64 0),(.sl [])]) 6,
 ⟨.st 5 (.t 6) (.t 19),none,none⟩]
 (.seq (sR [oV 5 20]
 (.block 0
 (sR [mo (.bin false .eql (.t 20) (cI 1)) 25,
 oV 25 24]
 (.cond (.t 24)
 (.reg [mo (.bslice 1 [(.c (.str [107,105,110,100,48])),(.c (.str [107,105,110,100,49])),(.c (.str [112,108,97,105,110,48])),(.c (.str [110,111,110,101]))]) 26,
 oV 0 27,
 mo (.call (.f 17) [(.t 27),(cI 4)] [1000] []) 28,
 mo (.iad 1 (.t 26) (.t 28)) 29,
 oL 29 30,
 oF 1 6 31,
 ⟨.st 1 (.t 31) (.t 30),none,none⟩])
 (.cut (sR [mo (.bin false .eql (.t 20) (cI 2)) 33,
 oV 33 32]
 (.cond (.t 32)
 .skip
 (.reg [mo (.bin false .eql (.t 20) (cI 3)) 34,
 oV 34 32])))
 mc_3h)))))
 (sR [mo (.ld (some 5) (.t 6)) 73,
 ⟨.st 5 (.t 4) (.t 73),none,none⟩]
 .ret)))
def mc_0:MC :=
 (sR [mo (.alloc [(.int .i64 0),(.str []),(.int .i64 0),(.int .u64 0),(.sl [])]) 4]
 (sR [oV 0 8,
 mo (.call (.f 11) [(.t 8),(cI 1),(cI 11)] [1000] []) 9,
 oV 9 5]
 (.cut (.seq (.regI [.op (oV 1 10),
 .op (mo (.bin false .leq (.t 10) (cI 1)) 11),
 .op (oV 11 12),
 .grp mg_3e])
 (.cond (.t 15)
 (.reg [oV 5 16,
 mo (.bin true .sub (.t 16) (cI 3)) 17,
 oV 17 5])
 .skip))
 mc_3i)))
theorem Wq_0 {n:Nat} (ih_made_Term:∀{t_:GTape} {deep_:Int} {y:GTerm×GTape},FR_0 n t_ deep_=some y→ACall Tryz.prog 21 [.ptr 1000 0,.int .i64 deep_] [(1000,.cells [.sl (t_.L.map (V.int .i64)),.int .i64 t_.at_])] (fun r H=>r=GTerm.v y.1∧H=[(1000,.cells [.sl (y.2.L.map (V.int .i64)),.int .i64 y.2.at_])])) (t_:GTape) (deep_:Int) {Q:GTerm×GTape→Prop} {Q':V→Heap→Prop} (h:Ok (FR_0 (n+1) t_ deep_) Q) (hQ:∀z,Q z→Q' (GTerm.v z.1) [(1000,.cells [.sl (z.2.L.map (V.int .i64)),.int .i64 z.2.at_])]):ACall Tryz.prog 21 [.ptr 1000 0,.int .i64 deep_] [(1000,.cells [.sl (t_.L.map (V.int .i64)),.int .i64 t_.at_])] Q':=by
 refine acallM mc_0 [.fzc 4] [1000] [.c 4 (some 5)] Tryz.func21 fun M=>?_
 simp only [FR_0] at h
 unfold mc_0
 replace h:=tY h
 refine tB ?_
 repeat' (first
 | (exact tZ)
 | ((first|refine oblg h ?_|refine roomG h ?_|refine inbG h ?_|refine fork h ?_ ?_|refine forkS h ?_ ?_)<;>clear h<;>intro hc h)
 | (obtain ⟨y,hy,h⟩:=h;(first|with_reducible first|have hw:=Wq_w.w hy|have hw:=Wq_d.w hy|have hw:=ih_made_Term hy);replace hw:=tY hw;(first|refine M.sC hw ?_|refine M.sD hw ?_);clear hw hy;refine tB ?_)
 | (refine M.gv1 (ms:=mg_3e) 15 [13,14] h ?_ ?_<;>first
 | (clear h;intro K hK1;unfold mg_3e;refine tB ?_)
 | (clear h;intro b h;replace h:=tY h;refine tB ?_))
 | (refine M.wh1 (b:=mc_3f) [0,1,4,6] [6,4] (fun x=>[(7,.int .i64 x.1)]) (fun x=>[.p 6 0 [.int .i64 x.2.1],.p 6 4 [.osl 4100 5 0 x.2.2.1.length],.o 4100 (.arr 5 (x.2.2.1.map GTerm.v)),.o 1000 (.cells [.sl (x.2.2.2.L.map (V.int .i64)),.int .i64 x.2.2.2.at_])]) [.gc [0,1,4,6,7],.ownC 6 4 4100 5 none] h ?_ ?_<;>first
 | (clear h;intro x Qn K hK2 h;unfold mc_3f;replace h:=tY h;refine tB ?_)
  |(clear h;(try refine tB ?_);exact tU0;done))
 | (refine M.jn1 (b:=mc_3g) [0,1,4,6] [6,4,1000] (fun y=>[(55,.bool y)]) (fun y=>[]) [] h ?_ ?_<;>first
 | (clear h;intro Qn K hK3 h;replace h:=tY h;refine tB ?_)
  |(clear h;intro y h;unfold mc_3g;replace h:=tY h;refine tB ?_))
 | (refine M.jn1 (b:=mc_3h) [0,1,4,6,20] [6,4,1000] (fun y=>[(32,.bool y)]) (fun y=>[]) [] h ?_ ?_<;>first
 | (clear h;intro Qn K hK4 h;replace h:=tY h;refine tB ?_)
  |(clear h;intro y h;unfold mc_3h;replace h:=tY h;refine tB ?_))
 | (refine M.jn1 (b:=mc_3i) [0,1,4] [4,1000] (fun y=>[(5,.int .i64 y)]) (fun y=>[]) [] h ?_ ?_<;>first
 | (clear h;intro Qn K hK5 h;replace h:=tY h;refine tB ?_)
  |(clear h;intro y h;unfold mc_3i;replace h:=tY h;refine tB ?_))
 | (refine hK1 _ ?_;exact tU;done)
 | ((first|refine hK2 _ ?_|refine hK3 _ ?_|refine hK4 _ ?_|refine hK5 _ ?_);(try refine tB ?_);refine ⟨_,h,?_⟩;exact tU0;done)
 | (refine bfork (fun hc=>?_) (fun hc=>?_))
 | (refine tE4 V.str ?_;(first|rw [M.lok_compU]|rw [M.lokD_compU]|(simp only [V.cells];first|rw [M.lok_comp]|rw [M.lokD_comp]));refine tB ?_)
 | (refine tE ?_;(first|rw [M.lok_compU]|rw [M.lokD_compU]);refine tB ?_)
 | (refine tA ?_)
 | fail)
theorem WG_0:∀n,(∀{t_:GTape} {deep_:Int} {y:GTerm×GTape},FR_0 n t_ deep_=some y→ACall Tryz.prog 21 [.ptr 1000 0,.int .i64 deep_] [(1000,.cells [.sl (t_.L.map (V.int .i64)),.int .i64 t_.at_])] (fun r H=>r=GTerm.v y.1∧H=[(1000,.cells [.sl (y.2.L.map (V.int .i64)),.int .i64 y.2.at_])]))
 | 0=>fun hy=>(by simp only [FR_0] at hy;cases hy)
 | n+1=>by
  have ih_made_Term:=@WG_0 n
  exact fun hy=>Wq_0 ih_made_Term _ _ (Q:=(·=_)) ⟨_,hy,rfl⟩ fun|_,rfl=>⟨rfl,rfl⟩
theorem W_0:∀{t_:GTape} {deep_:Int} {y:GTerm×GTape},F_0 t_ deep_=some y→ACall Tryz.prog 21 [.ptr 1000 0,.int .i64 deep_] [(1000,.cells [.sl (t_.L.map (V.int .i64)),.int .i64 t_.at_])] (fun r H=>r=GTerm.v y.1∧H=[(1000,.cells [.sl (y.2.L.map (V.int .i64)),.int .i64 y.2.at_])]):=fun hy=>by
 obtain ⟨n,hn⟩:=lim_inv hy
 exact (WG_0 n) hn
noncomputable def F_1y (n_:Int) (x37:Int×(List GRule)×GTape):Option (Fl (Int×(List GRule)×GTape) ((List GRule)×GTape)) :=
 bif decide (x37.1<n_) then (F_3 x37.1).bind fun y47=>chk (strl ([114].length+y47.length)) ((F_0 x37.2.2 3).bind fun y48=>(F_w y48.2 1 2).bind fun y49=>chk (room (x37.2.1.length+[(GRule.mk (([114]:Str)++y47) y48.1 y49.1)].length) 88) (chk (in64 (x37.1+1)) (some (.nx ((x37.1+1),(x37.2.1++[(GRule.mk (([114]:Str)++y47) y48.1 y49.1)]),y49.2))))) else some (.ex (x37.2.1,x37.2.2))
noncomputable def F_1h (t_:GTape) (n_:Int):Option ((List GRule)×GTape) :=
 (loop (F_1y n_) (0,[],t_)).bind fun r50=>some (r50.1,r50.2)
@[irreducible] def mc_1y:MC :=
 (.seq (sR [oV 6 7,
 oV 1 8,
 mo (.bin false .lss (.t 7) (.t 8)) 9]
 (.cond (.t 9)
 .skip
 (.exit 0)))
 (.seq (.block 1
 (.reg [oV 5 12,
 oV 6 13,
 mo (.call (.f 30) [(.t 13)] [] []) 14,
 mo (.bin false .add (.c (.str [114])) (.t 14)) 15,
 oV 0 16,
 mo (.call (.f 21) [(.t 16),(cI 3)] [1000] []) 17,
 oV 0 18,
 mo (.call (.f 11) [(.t 18),(cI 1),(cI 2)] [1000] []) 19,
 mo (.build [(.str []),(.int .i64 0),(.str []),(.int .i64 0),(.int .u64 0),(.sl []),(.int .i64 0)] [(0,1,(.t 15)),(1,5,(.t 17)),(6,1,(.t 19))]) 20,
 mo (.bslice 7 [(.t 20)]) 21,
 mo (.app 7 88 (.t 12) (.t 21)) 22,
 oV 22 5]))
 (.note (.gc [0,1,5,6]) (.reg [oV 6 10,
 mo (.bin true .add (.t 10) (cI 1)) 11,
 oV 11 6]))))
def mc_1h:MC :=
 (sR [mo (.mv (.c (.sl []))) 4]
 (sR [mo (.mv (.c .nils)) 5]
 (.seq (sR [oC 0 6]
 (.block 0
 (.loop mc_1y)))
 (sR [oV 5 23,
 oV 23 4]
 .ret))))
theorem Wq_1h {t_:GTape} {n_:Int}:Cn Tryz.prog 10 [.ptr 1000 0,.int .i64 n_] [(1000,.cells [.sl (t_.L.map (V.int .i64)),.int .i64 t_.at_])] (F_1h t_ n_) (fun z=>.sl (z.1.map GRule.v)) (fun z=>[(1000,.cells [.sl (z.2.L.map (V.int .i64)),.int .i64 z.2.at_])]):=fun Q Q' h hQ=>by
 refine acallM mc_1h [.fz 4] [1000] [.t 4] Tryz.func10 fun M=>?_
 unfold F_1h at h
 unfold mc_1h
 replace h:=tY h
 refine tB ?_
 repeat' (first
 | (exact tZ)
 | ((first|refine oblg h ?_|refine roomG h ?_|refine fork h ?_ ?_|refine forkS h ?_ ?_)<;>clear h<;>intro hc h)
 | (obtain ⟨y,hy,h⟩:=h;(first|with_reducible first|have hw:=W_3 hy|have hw:=W_0 hy|have hw:=Wq_w.w hy);replace hw:=tY hw;(first|refine M.sC hw ?_|refine M.sD hw ?_);clear hw hy;refine tB ?_)
 | (refine M.wh1 (b:=mc_1y) [0,1] [] (fun x=>[(5,.osl 2005 7 0 x.2.1.length),(6,.int .i64 x.1)]) (fun x=>[.o 2005 (.arr 7 (x.2.1.map GRule.v)),.o 1000 (.cells [.sl (x.2.2.L.map (V.int .i64)),.int .i64 x.2.2.at_])]) [.gc [0,1,5,6],.acc 5 2005 7] h ?_ ?_<;>first
 | (clear h;intro x Qn K hK1 h;unfold F_1y at h;unfold mc_1y;replace h:=tY h;refine tB ?_)
  |(clear h;(try refine tB ?_);exact tU0;done))
 | (refine hK1 _ ?_;(try refine tB ?_);refine ⟨_,h,?_⟩;exact tU0;done)
 | (refine tE ?_;(first|rw [M.lok_compU]|rw [M.lokD_compU]);refine tB ?_)
 | (refine tA ?_)
 | fail)
noncomputable def FR_b:Nat→GTerm→GTerm→Option Bool
 | 0,_,_=>none
 | n+1,a_,b_ =>
 grp (((!decide (a_.Op=b_.Op))||(!decide (a_.Text=b_.Text)))) fun b13=>grp ((b13||(!decide (a_.Number=b_.Number)))) fun b14=>grp ((b14||(!decide (a_.Print=b_.Print)))) fun b15=>grp ((b15||(!decide ((a_.Kids.length:Int)=(b_.Kids.length:Int))))) fun b16=>bif b16 then some false else (loop (fun (x45:Int)=>(bif decide (x45<(a_.Kids.length:Int)) then chk (inb x45 a_.Kids.length) (chk (inb x45 b_.Kids.length) ((FR_b n (a_.Kids.getD (x45).toNat default) (b_.Kids.getD (x45).toNat default)).bind fun y53=>bif (!y53) then some (.ex (.inr false)) else chk (in64 (x45+1)) (some (.nx (x45+1))))) else some (.ex (.inl ())):Option (Fl Int (Sum Unit Bool)))) 0).bind fun r54=>Sum.elim (fun u55=>some true) (fun u56=>some u56) r54
noncomputable def F_b (a_:GTerm) (b_:GTerm):Option Bool:=lim fun n=>FR_b n a_ b_
@[irreducible] def mg_3j:List MOp:=[gF 11 12 (.fad 1 (.t 2)),
 gF 11 13 (.ld none (.t 12)),
 gF 11 14 (.fad 1 (.t 3)),
 gF 11 15 (.ld none (.t 14)),
 gF 11 16 (.bin false .neq (.t 13) (.t 15)),
 mo (.pick (.t 11) (.c (.bool true)) (.t 16)) 17]
@[irreducible] def mg_3k:List MOp:=[gF 18 19 (.fad 2 (.t 2)),
 gF 18 20 (.ld none (.t 19)),
 gF 18 21 (.fad 2 (.t 3)),
 gF 18 22 (.ld none (.t 21)),
 gF 18 23 (.bin false .neq (.t 20) (.t 22)),
 mo (.pick (.t 18) (.c (.bool true)) (.t 23)) 24]
@[irreducible] def mg_3l:List MOp:=[gF 25 26 (.fad 3 (.t 2)),
 gF 25 27 (.ld none (.t 26)),
 gF 25 28 (.fad 3 (.t 3)),
 gF 25 29 (.ld none (.t 28)),
 gF 25 30 (.bin false .neq (.t 27) (.t 29)),
 mo (.pick (.t 25) (.c (.bool true)) (.t 30)) 31]
@[irreducible] def mg_3m:List MOp:=[gF 32 33 (.fad 4 (.t 2)),
 gF 32 34 (.ld none (.t 33)),
 gF 32 35 (.len false (.t 34)),
 gF 32 36 (.fad 4 (.t 3)),
 gF 32 37 (.ld none (.t 36)),
 gF 32 38 (.len false (.t 37)),
 gF 32 39 (.bin false .neq (.t 35) (.t 38)),
 mo (.pick (.t 32) (.c (.bool true)) (.t 39)) 40]
@[irreducible] def mc_3n:MC :=
 (.seq (sR [oV 5 41,
 oF 4 2 42,
 oL 42 43,
 mo (.len false (.t 43)) 44,
 mo (.bin false .lss (.t 41) (.t 44)) 45]
 (.cond (.t 45)
 .skip
 (.exit 0)))
 (.seq (.block 1
 (.seq (.regD [oF 4 2 48,
 oL 48 49,
 oV 5 50,
 mo (.iad 5 (.t 49) (.t 50)) 51,
 mo (.ld (some 5) (.t 51)) 52,
 oF 4 3 53,
 oL 53 54,
 oV 5 55,
 mo (.iad 5 (.t 54) (.t 55)) 56,
 mo (.ld (some 5) (.t 56)) 57,
 mo (.call (.f 37) [(.t 52),(.t 57)] [] []) 58,
 mo (.not (.t 58)) 59]
 [[],[0],[],[1,2],[3],[],[5],[],[6,7],[8],[4,9],[10]]
 [[],[0],[],[0,1,2],[0,1,2,3],[],[5],[],[5,6,7],[5,6,7,8],[0,1,2,3,4,5,6,7,8,9],[0,1,2,3,4,5,6,7,8,9,10]])
 (.cond (.t 59)
 (sR [mo (.mv (.c (.bool false))) 4]
 .ret)
 .skip)))
 (.note (.gc [2,3,5]) (.reg [oV 5 46,
 mo (.bin true .add (.t 46) (cI 1)) 47,
 oV 47 5]))))
def mc_b:MC :=
 (sR [mo (.box (.t 0)) 2,
 mo (.box (.t 1)) 3,
 mo (.mv (.c (.bool false))) 4]
 (.seq (.seq (.regI [.op (oF 0 2 6),
 .op (oL 6 7),
 .op (oF 0 3 8),
 .op (oL 8 9),
 .op (mo (.bin false .neq (.t 7) (.t 9)) 10),
 .op (oV 10 11),
 .grp mg_3j,
 .op (oV 17 18),
 .grp mg_3k,
 .op (oV 24 25),
 .grp mg_3l,
 .op (oV 31 32),
 .grp mg_3m])
 (.cond (.t 40)
 (sR [mo (.mv (.c (.bool false))) 4]
 .ret)
 .skip))
 (.seq (sR [oC 0 5]
 (.block 0
 (.loop mc_3n)))
 (sR [mo (.mv (.c (.bool true))) 4]
 .ret))))
theorem Wq_b {n:Nat} (ih_ref21_SameTerm:∀{a_:GTerm} {b_:GTerm} {y:Bool},FR_b n a_ b_=some y→ACall Tryz.prog 37 [GTerm.v a_,GTerm.v b_] [] (fun r H=>r=.bool y∧H=[])) (a_:GTerm) (b_:GTerm) {Q:Bool→Prop} {Q':V→Heap→Prop} (h:Ok (FR_b (n+1) a_ b_) Q) (hQ:∀z,Q z→Q' (.bool z) []):ACall Tryz.prog 37 [GTerm.v a_,GTerm.v b_] [] Q':=by
 refine acallM mc_b [] [] [.t 4] Tryz.func37 fun M=>?_
 simp only [FR_b] at h
 unfold mc_b
 replace h:=tY h
 refine tB ?_
 repeat' (first
 | (exact tZ)
 | ((first|refine oblg h ?_|refine roomG h ?_|refine fork h ?_ ?_|refine forkS h ?_ ?_)<;>clear h<;>intro hc h)
 | (obtain ⟨y,hy,h⟩:=h;have hw:=ih_ref21_SameTerm hy;replace hw:=tY hw;(first|refine M.sC hw ?_|refine M.sD hw ?_);clear hw hy;refine tB ?_)
 | (refine M.wh1 (b:=mc_3n) [2,3] [3,2] (fun x=>[(5,.int .i64 x)]) (fun x=>[]) [] h ?_ ?_<;>first
 | (clear h;intro x Qn K hK1 h;unfold mc_3n;replace h:=tY h;refine tB ?_)
  |(clear h;(try refine tB ?_);exact tU0;done))
 | (refine M.gv1 (ms:=mg_3m) 40 [33,34,35,36,37,38,39] h ?_ ?_<;>first
 | (clear h;intro K hK2;unfold mg_3m;refine tB ?_)
 | (clear h;intro b h;replace h:=tY h;refine tB ?_))
 | (refine M.gv1 (ms:=mg_3l) 31 [26,27,28,29,30] h ?_ ?_<;>first
 | (clear h;intro K hK3;unfold mg_3l;refine tB ?_)
 | (clear h;intro b h;replace h:=tY h;refine tB ?_))
 | (refine M.gv1 (ms:=mg_3k) 24 [19,20,21,22,23] h ?_ ?_<;>first
 | (clear h;intro K hK4;unfold mg_3k;refine tB ?_)
 | (clear h;intro b h;replace h:=tY h;refine tB ?_))
 | (refine M.gv1 (ms:=mg_3j) 17 [12,13,14,15,16] h ?_ ?_<;>first
 | (clear h;intro K hK5;unfold mg_3j;refine tB ?_)
 | (clear h;intro b h;replace h:=tY h;refine tB ?_))
 | (refine hK1 _ ?_;(try refine tB ?_);refine ⟨_,h,?_⟩;exact tU0;done)
 | ((first|refine hK2 _ ?_|refine hK3 _ ?_|refine hK4 _ ?_|refine hK5 _ ?_);exact tU;done)
 | (refine bfork (fun hc=>?_) (fun hc=>?_))
 | (refine tE ?_;(first|rw [M.lok_compU]|rw [M.lokD_compU]);refine tB ?_)
 | (refine tA ?_)
 | fail)
theorem WG_b:∀n,(∀{a_:GTerm} {b_:GTerm} {y:Bool},FR_b n a_ b_=some y→ACall Tryz.prog 37 [GTerm.v a_,GTerm.v b_] [] (fun r H=>r=.bool y∧H=[]))
 | 0=>fun hy=>(by simp only [FR_b] at hy;cases hy)
 | n+1=>by
  have ih_ref21_SameTerm:=@WG_b n
  exact fun hy=>Wq_b ih_ref21_SameTerm _ _ (Q:=(·=_)) ⟨_,hy,rfl⟩ fun|_,rfl=>⟨rfl,rfl⟩
theorem W_b:∀{a_:GTerm} {b_:GTerm} {y:Bool},F_b a_ b_=some y→ACall Tryz.prog 37 [GTerm.v a_,GTerm.v b_] [] (fun r H=>r=.bool y∧H=[]):=fun hy=>by
 obtain ⟨n,hn⟩:=lim_inv hy
 exact (WG_b n) hn
noncomputable def F_1z (a_:List GRule) (b_:List GRule) (x29:Int):Option (Fl Int (Sum Unit Bool)) :=
 bif decide (x29<(a_.length:Int)) then chk (inb x29 a_.length) (chk (inb x29 b_.length) (bif (!decide ((a_.getD (x29).toNat default).Name=(b_.getD (x29).toNat default).Name)) then some (.ex (.inr false)) else chk (inb x29 a_.length) (chk (inb x29 b_.length) (bif (!decide ((a_.getD (x29).toNat default).Verdict=(b_.getD (x29).toNat default).Verdict)) then some (.ex (.inr false)) else chk (inb x29 a_.length) (chk (inb x29 b_.length) ((F_b ((a_.getD (x29).toNat default).When) ((b_.getD (x29).toNat default).When)).bind fun y37=>bif (!y37) then some (.ex (.inr false)) else chk (in64 (x29+1)) (some (.nx (x29+1))))))))) else some (.ex (.inl ()))
noncomputable def F_1i (a_:List GRule) (b_:List GRule):Option Bool :=
 bif (!decide ((a_.length:Int)=(b_.length:Int))) then some false else (loop (F_1z a_ b_) 0).bind fun r38=>Sum.elim (fun u39=>some true) (fun u40=>some u40) r38
@[irreducible] def mc_1z:MC :=
 (.seq (sR [oV 5 11,
 oV 0 12,
 mo (.len false (.t 12)) 13,
 mo (.bin false .lss (.t 11) (.t 13)) 14]
 (.cond (.t 14)
 .skip
 (.exit 0)))
 (.seq (.block 1
 (.seq (.regD [oV 0 17,
 oV 5 18,
 mo (.iad 7 (.t 17) (.t 18)) 19,
 oF 0 19 20,
 oL 20 21,
 oV 1 22,
 oV 5 23,
 mo (.iad 7 (.t 22) (.t 23)) 24,
 oF 0 24 25,
 oL 25 26,
 mo (.bin false .neq (.t 21) (.t 26)) 27,
 oV 27 28,
 gF 28 29 (.mv (.t 0)),
 gF 28 30 (.mv (.t 5)),
 gF 28 31 (.iad 7 (.t 29) (.t 30)),
 gF 28 32 (.fad 6 (.t 31)),
 gF 28 33 (.ld none (.t 32)),
 gF 28 34 (.mv (.t 1)),
 gF 28 35 (.mv (.t 5)),
 gF 28 36 (.iad 7 (.t 34) (.t 35)),
 gF 28 37 (.fad 6 (.t 36)),
 gF 28 38 (.ld none (.t 37)),
 gF 28 39 (.bin false .neq (.t 33) (.t 38)),
 mo (.pick (.t 28) (.c (.bool true)) (.t 39)) 40,
 oV 40 41,
 gF 41 42 (.mv (.t 0)),
 gF 41 43 (.mv (.t 5)),
 gF 41 44 (.iad 7 (.t 42) (.t 43)),
 gF 41 45 (.fad 1 (.t 44)),
 gF 41 46 (.ld (some 5) (.t 45)),
 gF 41 47 (.mv (.t 1)),
 gF 41 48 (.mv (.t 5)),
 gF 41 49 (.iad 7 (.t 47) (.t 48)),
 gF 41 50 (.fad 1 (.t 49)),
 gF 41 51 (.ld (some 5) (.t 50)),
 gF 41 52 (.call (.f 37) [(.t 46),(.t 51)] [] []),
 gF 41 53 (.not (.t 52)),
 mo (.pick (.t 41) (.c (.bool true)) (.t 53)) 54]
 [[],[],[0,1],[2],[3],[],[],[5,6],[7],[8],[4,9],[10],[11],[11],[12,13,11],[14,11],[15,11],[11],[11],[17,18,11],[19,11],[20,11],[16,21,11],[11,22],[23,11],[24],[24],[25,26,24],[27,24],[28,24],[24],[24],[30,31,24],[32,24],[33,24],[29,34,24,24],[35,24],[24,36]]
 [[],[],[0,1],[0,1,2],[0,1,2,3],[],[],[5,6],[5,6,7],[5,6,7,8],[0,1,2,3,4,5,6,7,8,9],[0,1,2,3,4,5,6,7,8,9,10],[0,1,2,3,4,5,6,7,8,9,10,11],[0,1,2,3,4,5,6,7,8,9,10,11],[0,1,2,3,4,5,6,7,8,9,10,11,12,13],[0,1,2,3,4,5,6,7,8,9,10,11,12,13,14],[0,1,2,3,4,5,6,7,8,9,10,11,12,13,14,15],[0,1,2,3,4,5,6,7,8,9,10,11],[0,1,2,3,4,5,6,7,8,9,10,11],[0,1,2,3,4,5,6,7,8,9,10,11,17,18],[0,1,2,3,4,5,6,7,8,9,10,11,17,18,19],[0,1,2,3,4,5,6,7,8,9,10,11,17,18,19,20],[0,1,2,3,4,5,6,7,8,9,10,11,12,13,14,15,16,17,18,19,20,21],[0,1,2,3,4,5,6,7,8,9,10,11,12,13,14,15,16,17,18,19,20,21,22],[0,1,2,3,4,5,6,7,8,9,10,11,12,13,14,15,16,17,18,19,20,21,22,23],[0,1,2,3,4,5,6,7,8,9,10,11,12,13,14,15,16,17,18,19,20,21,22,23,24],[0,1,2,3,4,5,6,7,8,9,10,11,12,13,14,15,16,17,18,19,20,21,22,23,24],[0,1,2,3,4,5,6,7,8,9,10,11,12,13,14,15,16,17,18,19,20,21,22,23,24,25,26],[0,1,2,3,4,5,6,7,8,9,10,11,12,13,14,15,16,17,18,19,20,21,22,23,24,25,26,27],[0,1,2,3,4,5,6,7,8,9,10,11,12,13,14,15,16,17,18,19,20,21,22,23,24,25,26,27,28],[0,1,2,3,4,5,6,7,8,9,10,11,12,13,14,15,16,17,18,19,20,21,22,23,24],[0,1,2,3,4,5,6,7,8,9,10,11,12,13,14,15,16,17,18,19,20,21,22,23,24],[0,1,2,3,4,5,6,7,8,9,10,11,12,13,14,15,16,17,18,19,20,21,22,23,24,30,31],[0,1,2,3,4,5,6,7,8,9,10,11,12,13,14,15,16,17,18,19,20,21,22,23,24,30,31,32],[0,1,2,3,4,5,6,7,8,9,10,11,12,13,14,15,16,17,18,19,20,21,22,23,24,30,31,32,33],[0,1,2,3,4,5,6,7,8,9,10,11,12,13,14,15,16,17,18,19,20,21,22,23,24,25,26,27,28,29,30,31,32,33,34],[0,1,2,3,4,5,6,7,8,9,10,11,12,13,14,15,16,17,18,19,20,21,22,23,24,25,26,27,28,29,30,31,32,33,34,35],[0,1,2,3,4,5,6,7,8,9,10,11,12,13,14,15,16,17,18,19,20,21,22,23,24,25,26,27,28,29,30,31,32,33,34,35,36]])
 (.cond (.t 54)
 (sR [mo (.mv (.c (.bool false))) 4]
 .ret)
 .skip)))
 (.note (.gc [0,1,5,29,30,31,32,33,34,35,36,37,38,39,42,43,44,45,46,47,48,49,50,51,52,53]) (.reg [oV 5 15,
 mo (.bin true .add (.t 15) (cI 1)) 16,
 oV 16 5]))))
def mc_1i:MC :=
 (sR [mo (.mv (.c (.bool false))) 4]
 (.seq (sR [oV 0 6,
 mo (.len false (.t 6)) 7,
 oV 1 8,
 mo (.len false (.t 8)) 9,
 mo (.bin false .neq (.t 7) (.t 9)) 10]
 (.cond (.t 10)
 (sR [mo (.mv (.c (.bool false))) 4]
 .ret)
 .skip))
 (.seq (sR [oC 0 5]
 (.block 0
 (.loop mc_1z)))
 (sR [mo (.mv (.c (.bool true))) 4]
 .ret))))
theorem Wq_1i {a_ b_:List GRule}:Cn Tryz.prog 14 [.sl (a_.map GRule.v),.sl (b_.map GRule.v)] [] (F_1i a_ b_) (fun z=>.bool z) (fun z=>[]):=fun Q Q' h hQ=>by
 refine acallM mc_1i [] [] [.t 4] Tryz.func14 fun M=>?_
 unfold F_1i at h
 unfold mc_1i
 replace h:=tY h
 refine tB ?_
 repeat' (first
 | (exact tZ)
 | ((first|refine oblg h ?_|refine roomG h ?_|refine fork h ?_ ?_|refine forkS h ?_ ?_)<;>clear h<;>intro hc h)
 | (obtain ⟨y,hy,h⟩:=h;have hw:=W_b hy;replace hw:=tY hw;(first|refine M.sC hw ?_|refine M.sD hw ?_);clear hw hy;refine tB ?_)
 | (refine M.wh1 (b:=mc_1z) [0,1] [] (fun x=>[(5,.int .i64 x)]) (fun x=>[]) [] h ?_ ?_<;>first
 | (clear h;intro x Qn K hK1 h;unfold F_1z at h;unfold mc_1z;replace h:=tY h;refine tB ?_)
  |(clear h;(try refine tB ?_);exact tU0;done))
 | (refine hK1 _ ?_;(try refine tB ?_);refine ⟨_,h,?_⟩;exact tU0;done)
 | (refine tE ?_;(first|rw [M.lok_compU]|rw [M.lokD_compU]);refine tB ?_)
 | (refine tA ?_)
 | fail)
mutual
def FR_x:Nat→(List GTerm)→(List GTerm)→Option Bool
 | 0,_,_=>none
 | n+1,s1_,s2_ =>
 bif (!decide ((s1_.length:Int)=(s2_.length:Int))) then some false else (forL (fun (k31:Int) (a32:GTerm) (x30:Unit)=>(chk (inb k31 s2_.length) ((FR_e n a32 (s2_.getD (k31).toNat default)).bind fun y40=>bif (!y40) then some (.ex false) else some (.nx ())):Option (Fl Unit Bool))) s1_ 0 ()).bind fun o=>o.elim (fun x41=>some true) (fun r42=>some r42)
def FR_e:Nat→GTerm→GTerm→Option Bool
 | 0,_,_=>none
 | n+1,a_,b_ =>
 grp ((decide (a_.Op=b_.Op)&&decide (a_.Text=b_.Text))) fun b6=>grp ((b6&&decide (a_.Number=b_.Number))) fun b7=>grp ((b7&&decide (a_.Print=b_.Print))) fun b8=>jn (α:=Bool) (bif b8 then (FR_x n a_.Kids b_.Kids).bind fun y10=>some y10 else some false) fun j11=>some j11
end
noncomputable def F_e (a_:GTerm) (b_:GTerm):Option Bool:=lim fun n=>FR_e n a_ b_
@[irreducible] def mc_26:MC :=
 (sR [mo (.bin false .lss (.t 17) (.t 16)) 18]
 (.seq (.cond (.t 18)
 .skip
 (.exit 0))
 (.seq (.block 1
 (sR [oV 17 19,
 mo (.iad 5 (.t 15) (.t 17)) 20,
 mo (.ld (some 5) (.t 20)) 21,
 mo (.alloc [(.int .i64 0),(.str []),(.int .i64 0),(.int .u64 0),(.sl [])]) 8,
 oV 19 7,
 ⟨.st 5 (.t 8) (.t 21),none,none⟩]
 (sR [oV 1 22,
 oV 7 23,
 mo (.iad 5 (.t 22) (.t 23)) 24,
 mo (.ld (some 5) (.t 24)) 25,
 mo (.alloc [(.int .i64 0),(.str []),(.int .i64 0),(.int .u64 0),(.sl [])]) 9,
 ⟨.st 5 (.t 9) (.t 25),none,none⟩]
 (.seq (.note (.gc [1,2,8,9,15,16,17]) (.reg [oV 2 26,
 mo (.ld (some 5) (.t 8)) 27,
 mo (.ld (some 5) (.t 9)) 28,
 mo (.call (.t 26) [(.t 27),(.t 28)] [] []) 29,
 mo (.not (.t 29)) 30]))
 (.cond (.t 30)
 (sR [mo (.mv (.c (.bool false))) 6]
 .ret)
 .skip)))))
 (.reg [mo (.bin true .add (.t 17) (cI 1)) 31,
 oV 31 17]))))
def mc_x:MC :=
 (sR [mo (.mv (.c (.bool false))) 6]
 (.seq (sR [oV 0 10,
 mo (.len false (.t 10)) 11,
 oV 1 12,
 mo (.len false (.t 12)) 13,
 mo (.bin false .neq (.t 11) (.t 13)) 14]
 (.cond (.t 14)
 (sR [mo (.mv (.c (.bool false))) 6]
 .ret)
 .skip))
 (.seq (sR [oV 0 15,
 mo (.len false (.t 15)) 16,
 oC 0 17]
 (.block 0
 (.loop mc_26)))
 (sR [mo (.mv (.c (.bool true))) 6]
 .ret))))
theorem Wq_x {n:Nat} (ih_slices_EqualFunc_api_Term_api_Term_api_Term_api_Term_of_rule_same:∀{s1_:List GTerm} {s2_:List GTerm} {y:Bool},FR_x n s1_ s2_=some y→ACall Tryz.prog 83 [.sl (s1_.map GTerm.v),.sl (s2_.map GTerm.v),.fn (.func 48) []] [] (fun r H=>r=.bool y∧H=[])) (ih_rule_same:∀{a_:GTerm} {b_:GTerm} {y:Bool},FR_e n a_ b_=some y→ACall Tryz.prog 48 [GTerm.v a_,GTerm.v b_] [] (fun r H=>r=.bool y∧H=[])) (s1_:List GTerm) (s2_:List GTerm) {Q:Bool→Prop} {Q':V→Heap→Prop} (h:Ok (FR_x (n+1) s1_ s2_) Q) (hQ:∀z,Q z→Q' (.bool z) []):ACall Tryz.prog 83 [.sl (s1_.map GTerm.v),.sl (s2_.map GTerm.v),.fn (.func 48) []] [] Q':=by
 refine acallM mc_x [] [] [.t 6] Tryz.func83 fun M=>?_
 simp only [FR_x] at h
 unfold mc_x
 replace h:=tY h
 refine tB ?_
 repeat' (first
 | (exact tZ)
 | ((first|refine oblg h ?_|refine roomG h ?_|refine fork h ?_ ?_|refine forkS h ?_ ?_)<;>clear h<;>intro hc h)
 | (obtain ⟨y,hy,h⟩:=h;have hw:=ih_rule_same hy;replace hw:=tY hw;(first|refine M.sC hw ?_|refine M.sD hw ?_);clear hw hy;refine tB ?_)
 | (refine M.for1 (b:=mc_26) 17 [1,2,15,16] [] (fun x=>[]) (fun x=>[]) [] h ?_ ?_ ?_<;>first
 | (clear h;intro k a x Qn K hK1 hkN1 ha1 h hf;have hl:=fact_int (factsE_find (n:=16) hf.1 rfl);clear hf;have hkd:=kD hkN1;have hkB1:=kB hkN1;have hkI1:=kI (k:=k) (by omega);unfold mc_26;replace h:=tY h;refine tK ha1 hkd hkN1 hkB1 hkI1 ?_)
  |(clear h;intro x K h;replace h:=And.left (And.intro h trivial);unfold mc_26;replace h:=tY h;refine tB ?_)
  |(clear h;(try refine tB ?_);exact tU0;done))
 | (simp only [ha1])
 | (refine hK1 _ ?_;(try refine tB ?_);refine ⟨_,h,?_⟩;exact tU0;done)
 | (refine tE ?_;(first|rw [M.lok_compU]|rw [M.lokD_compU]);refine tB ?_)
 | (refine tA ?_)
 | fail)
@[irreducible] def mg_3o:List MOp:=[gT 10 11 (.fad 1 (.t 2)),
 gT 10 12 (.ld none (.t 11)),
 gT 10 13 (.fad 1 (.t 3)),
 gT 10 14 (.ld none (.t 13)),
 gT 10 15 (.bin false .eql (.t 12) (.t 14)),
 mo (.pick (.t 10) (.t 15) (.c (.bool false))) 16]
@[irreducible] def mg_3p:List MOp:=[gT 17 18 (.fad 2 (.t 2)),
 gT 17 19 (.ld none (.t 18)),
 gT 17 20 (.fad 2 (.t 3)),
 gT 17 21 (.ld none (.t 20)),
 gT 17 22 (.bin false .eql (.t 19) (.t 21)),
 mo (.pick (.t 17) (.t 22) (.c (.bool false))) 23]
@[irreducible] def mg_3q:List MOp:=[gT 24 25 (.fad 3 (.t 2)),
 gT 24 26 (.ld none (.t 25)),
 gT 24 27 (.fad 3 (.t 3)),
 gT 24 28 (.ld none (.t 27)),
 gT 24 29 (.bin false .eql (.t 26) (.t 28)),
 mo (.pick (.t 24) (.t 29) (.c (.bool false))) 30]
@[irreducible] def mg_3r:List MOp:=[gT 31 32 (.fad 4 (.t 2)),
 gT 31 33 (.ld none (.t 32)),
 gT 31 34 (.fad 4 (.t 3)),
 gT 31 35 (.ld none (.t 34)),
 gT 31 36 (.call (.f 83) [(.t 33),(.t 35),(.f 48)] [] []),
 mo (.pick (.t 31) (.t 36) (.c (.bool false))) 37]
def mc_e:MC :=
 (sR [mo (.box (.t 0)) 2,
 mo (.box (.t 1)) 3,
 mo (.mv (.c (.bool false))) 4]
 (.seq (.regI [.op (oF 0 2 5),
 .op (oL 5 6),
 .op (oF 0 3 7),
 .op (oL 7 8),
 .op (mo (.bin false .eql (.t 6) (.t 8)) 9),
 .op (oV 9 10),
 .grp mg_3o,
 .op (oV 16 17),
 .grp mg_3p,
 .op (oV 23 24),
 .grp mg_3q,
 .op (oV 30 31),
 .grp mg_3r,
 .op (oV 37 4)])
 .ret))
theorem Wq_e {n:Nat} (ih_slices_EqualFunc_api_Term_api_Term_api_Term_api_Term_of_rule_same:∀{s1_:List GTerm} {s2_:List GTerm} {y:Bool},FR_x n s1_ s2_=some y→ACall Tryz.prog 83 [.sl (s1_.map GTerm.v),.sl (s2_.map GTerm.v),.fn (.func 48) []] [] (fun r H=>r=.bool y∧H=[])) (ih_rule_same:∀{a_:GTerm} {b_:GTerm} {y:Bool},FR_e n a_ b_=some y→ACall Tryz.prog 48 [GTerm.v a_,GTerm.v b_] [] (fun r H=>r=.bool y∧H=[])) (a_:GTerm) (b_:GTerm) {Q:Bool→Prop} {Q':V→Heap→Prop} (h:Ok (FR_e (n+1) a_ b_) Q) (hQ:∀z,Q z→Q' (.bool z) []):ACall Tryz.prog 48 [GTerm.v a_,GTerm.v b_] [] Q':=by
 refine acallM mc_e [] [] [.t 4] Tryz.func48 fun M=>?_
 simp only [FR_e] at h
 unfold mc_e
 replace h:=tY h
 refine tB ?_
 repeat' (first
 | (exact tZ)
 | ((first|refine oblg h ?_|refine roomG h ?_|refine fork h ?_ ?_|refine forkS h ?_ ?_)<;>clear h<;>intro hc h)
 | (obtain ⟨y,hy,h⟩:=h;have hw:=ih_slices_EqualFunc_api_Term_api_Term_api_Term_api_Term_of_rule_same hy;replace hw:=tY hw;(first|refine M.sC hw ?_|refine M.sD hw ?_);clear hw hy;refine tB ?_)
 | (refine M.gj1 (ms:=mg_3r) [4] [] (fun y=>[(37,.bool y)]) (fun y=>[]) h ?_ ?_<;>first
 | (clear h;intro Qn K hK1 h;unfold mg_3r;replace h:=tY h;refine tB ?_)
  |(clear h;intro y h;replace h:=tY h;refine tB ?_))
 | (refine M.gv1 (ms:=mg_3q) 30 [25,26,27,28,29] h ?_ ?_<;>first
 | (clear h;intro K hK2;unfold mg_3q;refine tB ?_)
 | (clear h;intro b h;replace h:=tY h;refine tB ?_))
 | (refine M.gv1 (ms:=mg_3p) 23 [18,19,20,21,22] h ?_ ?_<;>first
 | (clear h;intro K hK3;unfold mg_3p;refine tB ?_)
 | (clear h;intro b h;replace h:=tY h;refine tB ?_))
 | (refine M.gv1 (ms:=mg_3o) 16 [11,12,13,14,15] h ?_ ?_<;>first
 | (clear h;intro K hK4;unfold mg_3o;refine tB ?_)
 | (clear h;intro b h;replace h:=tY h;refine tB ?_))
 | (refine hK1 _ ?_;(try refine tB ?_);refine ⟨_,h,?_⟩;exact tU0;done)
 | ((first|refine hK2 _ ?_|refine hK3 _ ?_|refine hK4 _ ?_);exact tU;done)
 | (refine bfork (fun hc=>?_) (fun hc=>?_))
 | (refine tE ?_;(first|rw [M.lok_compU]|rw [M.lokD_compU]);refine tB ?_)
 | (refine tA ?_)
 | fail)
theorem WG_41:∀n,(∀{s1_:List GTerm} {s2_:List GTerm} {y:Bool},FR_x n s1_ s2_=some y→ACall Tryz.prog 83 [.sl (s1_.map GTerm.v),.sl (s2_.map GTerm.v),.fn (.func 48) []] [] (fun r H=>r=.bool y∧H=[]))∧(∀{a_:GTerm} {b_:GTerm} {y:Bool},FR_e n a_ b_=some y→ACall Tryz.prog 48 [GTerm.v a_,GTerm.v b_] [] (fun r H=>r=.bool y∧H=[]))
 | 0=>⟨fun hy=>(by simp only [FR_x] at hy;cases hy),fun hy=>(by simp only [FR_e] at hy;cases hy)⟩
 | n+1=>by
  obtain ⟨ih_slices_EqualFunc_api_Term_api_Term_api_Term_api_Term_of_rule_same,ih_rule_same⟩:=WG_41 n
  refine ⟨?_,?_⟩
  ·exact fun hy=>Wq_x ih_slices_EqualFunc_api_Term_api_Term_api_Term_api_Term_of_rule_same ih_rule_same _ _ (Q:=(·=_)) ⟨_,hy,rfl⟩ fun|_,rfl=>⟨rfl,rfl⟩
  ·exact fun hy=>Wq_e ih_slices_EqualFunc_api_Term_api_Term_api_Term_api_Term_of_rule_same ih_rule_same _ _ (Q:=(·=_)) ⟨_,hy,rfl⟩ fun|_,rfl=>⟨rfl,rfl⟩
theorem W_e:∀{a_:GTerm} {b_:GTerm} {y:Bool},F_e a_ b_=some y→ACall Tryz.prog 48 [GTerm.v a_,GTerm.v b_] [] (fun r H=>r=.bool y∧H=[]):=fun hy=>by
 obtain ⟨n,hn⟩:=lim_inv hy
 exact (WG_41 n).2 hn
noncomputable def F_1j (x_:GRule) (y_:GRule):Option Bool :=
 grp ((decide (x_.Name=y_.Name)&&decide (x_.Verdict=y_.Verdict))) fun b4=>jn (α:=Bool) (bif b4 then (F_e x_.When y_.When).bind fun y6=>some y6 else some false) fun j7=>some j7
@[irreducible] def mg_3s:List MOp:=[gT 10 11 (.fad 6 (.t 2)),
 gT 10 12 (.ld none (.t 11)),
 gT 10 13 (.fad 6 (.t 3)),
 gT 10 14 (.ld none (.t 13)),
 gT 10 15 (.bin false .eql (.t 12) (.t 14)),
 mo (.pick (.t 10) (.t 15) (.c (.bool false))) 16]
@[irreducible] def mg_3t:List MOp:=[gT 17 18 (.fad 1 (.t 2)),
 gT 17 19 (.ld (some 5) (.t 18)),
 gT 17 20 (.fad 1 (.t 3)),
 gT 17 21 (.ld (some 5) (.t 20)),
 gT 17 22 (.call (.f 48) [(.t 19),(.t 21)] [] []),
 mo (.pick (.t 17) (.t 22) (.c (.bool false))) 23]
def mc_1j:MC :=
 (sR [mo (.box (.t 0)) 2,
 mo (.box (.t 1)) 3,
 mo (.mv (.c (.bool false))) 4]
 (.seq (.regI [.op (oF 0 2 5),
 .op (oL 5 6),
 .op (oF 0 3 7),
 .op (oL 7 8),
 .op (mo (.bin false .eql (.t 6) (.t 8)) 9),
 .op (oV 9 10),
 .grp mg_3s,
 .op (oV 16 17),
 .grp mg_3t,
 .op (oV 23 4)])
 .ret))
theorem Wq_1j {x_ y_:GRule}:Cn Tryz.prog 47 [GRule.v x_,GRule.v y_] [] (F_1j x_ y_) (fun z=>.bool z) (fun z=>[]):=fun Q Q' h hQ=>by
 refine acallM mc_1j [] [] [.t 4] Tryz.func47 fun M=>?_
 unfold F_1j at h
 unfold mc_1j
 replace h:=tY h
 refine tB ?_
 repeat' (first
 | (exact tZ)
 | ((first|refine oblg h ?_|refine roomG h ?_|refine fork h ?_ ?_|refine forkS h ?_ ?_)<;>clear h<;>intro hc h)
 | (obtain ⟨y,hy,h⟩:=h;have hw:=W_e hy;replace hw:=tY hw;(first|refine M.sC hw ?_|refine M.sD hw ?_);clear hw hy;refine tB ?_)
 | (refine M.gj1 (ms:=mg_3t) [4] [] (fun y=>[(23,.bool y)]) (fun y=>[]) h ?_ ?_<;>first
 | (clear h;intro Qn K hK1 h;unfold mg_3t;replace h:=tY h;refine tB ?_)
  |(clear h;intro y h;replace h:=tY h;refine tB ?_))
 | (refine M.gv1 (ms:=mg_3s) 16 [11,12,13,14,15] h ?_ ?_<;>first
 | (clear h;intro K hK2;unfold mg_3s;refine tB ?_)
 | (clear h;intro b h;replace h:=tY h;refine tB ?_))
 | (refine hK1 _ ?_;(try refine tB ?_);refine ⟨_,h,?_⟩;exact tU0;done)
 | (refine hK2 _ ?_;exact tU;done)
 | (refine bfork (fun hc=>?_) (fun hc=>?_))
 | (refine tE ?_;(first|rw [M.lok_compU]|rw [M.lokD_compU]);refine tB ?_)
 | (refine tA ?_)
 | fail)
noncomputable def F_1w (s2_:List GRule) (k31:Int) (a32:GRule) (x30:Unit):Option (Fl Unit Bool) :=
 chk (inb k31 s2_.length) ((F_1j a32 (s2_.getD (k31).toNat default)).bind fun y40=>bif (!y40) then some (.ex false) else some (.nx ()))
noncomputable def F_1k (s1_:List GRule) (s2_:List GRule):Option Bool :=
 bif (!decide ((s1_.length:Int)=(s2_.length:Int))) then some false else (forL (F_1w s2_) s1_ 0 ()).bind fun o=>o.elim (fun x41=>some true) (fun r42=>some r42)
@[irreducible] def mc_1w:MC :=
 (sR [mo (.bin false .lss (.t 17) (.t 16)) 18]
 (.seq (.cond (.t 18)
 .skip
 (.exit 0))
 (.seq (.block 1
 (sR [oV 17 19,
 mo (.iad 7 (.t 15) (.t 17)) 20,
 mo (.ld (some 7) (.t 20)) 21,
 mo (.alloc [(.str []),(.int .i64 0),(.str []),(.int .i64 0),(.int .u64 0),(.sl []),(.int .i64 0)]) 8,
 oV 19 7,
 ⟨.st 7 (.t 8) (.t 21),none,none⟩]
 (sR [oV 1 22,
 oV 7 23,
 mo (.iad 7 (.t 22) (.t 23)) 24,
 mo (.ld (some 7) (.t 24)) 25,
 mo (.alloc [(.str []),(.int .i64 0),(.str []),(.int .i64 0),(.int .u64 0),(.sl []),(.int .i64 0)]) 9,
 ⟨.st 7 (.t 9) (.t 25),none,none⟩]
 (.seq (.note (.gc [1,2,8,9,15,16,17]) (.reg [oV 2 26,
 mo (.ld (some 7) (.t 8)) 27,
 mo (.ld (some 7) (.t 9)) 28,
 mo (.call (.t 26) [(.t 27),(.t 28)] [] []) 29,
 mo (.not (.t 29)) 30]))
 (.cond (.t 30)
 (sR [mo (.mv (.c (.bool false))) 6]
 .ret)
 .skip)))))
 (.reg [mo (.bin true .add (.t 17) (cI 1)) 31,
 oV 31 17]))))
def mc_1k:MC :=
 (sR [mo (.mv (.c (.bool false))) 6]
 (.seq (sR [oV 0 10,
 mo (.len false (.t 10)) 11,
 oV 1 12,
 mo (.len false (.t 12)) 13,
 mo (.bin false .neq (.t 11) (.t 13)) 14]
 (.cond (.t 14)
 (sR [mo (.mv (.c (.bool false))) 6]
 .ret)
 .skip))
 (.seq (sR [oV 0 15,
 mo (.len false (.t 15)) 16,
 oC 0 17]
 (.block 0
 (.loop mc_1w)))
 (sR [mo (.mv (.c (.bool true))) 6]
 .ret))))
theorem Wq_1k {s1_ s2_:List GRule}:Cn Tryz.prog 46 [.sl (s1_.map GRule.v),.sl (s2_.map GRule.v),.fn (.func 47) []] [] (F_1k s1_ s2_) (fun z=>.bool z) (fun z=>[]):=fun Q Q' h hQ=>by
 refine acallM mc_1k [] [] [.t 6] Tryz.func46 fun M=>?_
 unfold F_1k at h
 unfold mc_1k
 replace h:=tY h
 refine tB ?_
 repeat' (first
 | (exact tZ)
 | ((first|refine oblg h ?_|refine roomG h ?_|refine fork h ?_ ?_|refine forkS h ?_ ?_)<;>clear h<;>intro hc h)
 | (obtain ⟨y,hy,h⟩:=h;have hw:=Wq_1j.w hy;replace hw:=tY hw;(first|refine M.sC hw ?_|refine M.sD hw ?_);clear hw hy;refine tB ?_)
 | (refine M.for1 (b:=mc_1w) 17 [1,2,15,16] [] (fun x=>[]) (fun x=>[]) [] h ?_ ?_ ?_<;>first
 | (clear h;intro k a x Qn K hK1 hkN1 ha1 h hf;have hl:=fact_int (factsE_find (n:=16) hf.1 rfl);clear hf;have hkd:=kD hkN1;have hkB1:=kB hkN1;have hkI1:=kI (k:=k) (by omega);unfold F_1w at h;unfold mc_1w;replace h:=tY h;refine tK ha1 hkd hkN1 hkB1 hkI1 ?_)
  |(clear h;intro x K h;replace h:=And.left (And.intro h trivial);unfold mc_1w;replace h:=tY h;refine tB ?_)
  |(clear h;(try refine tB ?_);exact tU0;done))
 | (simp only [ha1])
 | (refine hK1 _ ?_;(try refine tB ?_);refine ⟨_,h,?_⟩;exact tU0;done)
 | (refine tE ?_;(first|rw [M.lok_compU]|rw [M.lokD_compU]);refine tB ?_)
 | (refine tA ?_)
 | fail)
noncomputable def F_1l (a_:List GRule) (b_:List GRule):Option Bool :=
 (F_1k a_ b_).bind fun y2=>some y2
def mc_1l:MC :=
 (sR [mo (.mv (.c (.bool false))) 4]
 (sR [oV 0 5,
 oV 1 6,
 mo (.call (.f 46) [(.t 5),(.t 6),(.f 47)] [] []) 7,
 oV 7 4]
 .ret))
theorem Wq_1l {a_ b_:List GRule}:Cn Tryz.prog 27 [.sl (a_.map GRule.v),.sl (b_.map GRule.v)] [] (F_1l a_ b_) (fun z=>.bool z) (fun z=>[]):=fun Q Q' h hQ=>by
 refine acallM mc_1l [] [] [.t 4] Tryz.func27 fun M=>?_
 unfold F_1l at h
 unfold mc_1l
 replace h:=tY h
 refine tB ?_
 repeat' (first
 | (exact tZ)
 | ((first|refine oblg h ?_|refine roomG h ?_|refine fork h ?_ ?_|refine forkS h ?_ ?_)<;>clear h<;>intro hc h)
 | (obtain ⟨y,hy,h⟩:=h;have hw:=Wq_1k.w hy;replace hw:=tY hw;(first|refine M.sC hw ?_|refine M.sD hw ?_);clear hw hy;refine tB ?_)
 | (refine tE ?_;(first|rw [M.lok_compU]|rw [M.lokD_compU]);refine tB ?_)
 | (refine tA ?_)
 | fail)
noncomputable def F_1m (l_:List GRule):Option (Str×Int) :=
 (F_n l_).bind fun y4=>bif (!decide (y4=0)) then some ([],y4) else (F_u l_).bind fun y6=>some (y6,0)
def mc_1m:MC :=
 (sR [mo (.mv (.c (.str []))) 2,
 oC 0 3]
 (.seq (sR [oV 0 5,
 mo (.call (.f 33) [(.t 5)] [] []) 6,
 oV 6 4]
 (sR [oV 4 7,
 mo (.bin false .neq (.t 7) (cI 0)) 8]
 (.cond (.t 8)
 (sR [oV 4 9,
 mo (.mv (.c (.str []))) 2,
 oV 9 3]
 .ret)
 .skip)))
 (sR [oV 0 10,
 mo (.call (.f 34) [(.t 10)] [] []) 11,
 oV 11 2,
 oC 0 3]
 .ret)))
theorem Wq_1m {l_:List GRule}:Cn Tryz.prog 26 [.sl (l_.map GRule.v)] [] (F_1m l_) (fun z=>.tup [.str z.1,.int .i64 z.2]) (fun z=>[]):=fun Q Q' h hQ=>by
 refine acallM mc_1m [] [] [.t 2,.t 3] Tryz.func26 fun M=>?_
 unfold F_1m at h
 unfold mc_1m
 replace h:=tY h
 refine tB ?_
 repeat' (first
 | (exact tZ)
 | ((first|refine oblg h ?_|refine roomG h ?_|refine fork h ?_ ?_|refine forkS h ?_ ?_)<;>clear h<;>intro hc h)
 | (obtain ⟨y,hy,h⟩:=h;(first|with_reducible first|have hw:=Wq_n.w hy|have hw:=Wq_u.w hy);replace hw:=tY hw;(first|refine M.sC hw ?_|refine M.sD hw ?_);clear hw hy;refine tB ?_)
 | (refine tE ?_;(first|rw [M.lok_compU]|rw [M.lokD_compU]);refine tB ?_)
 | (refine tA ?_)
 | fail)
end Go.Ab
