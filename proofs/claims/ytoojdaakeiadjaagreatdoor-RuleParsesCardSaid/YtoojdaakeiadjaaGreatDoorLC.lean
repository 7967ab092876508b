/- What the functions of this seat that lie on the laws' road compute (part LC), each for every input. By AI agents. -/
import Derived.Test.YtoojdaakeiadjaaGreatDoorProg
import Derived.KernelRfl
import Derived.Test.YtoojdaakeiadjaaGreatDoorAbFun
import Derived.Test.YtoojdaakeiadjaaGreatDoorLB
set_option linter.all false
set_option linter.all false
set_option maxRecDepth 20000
set_option maxHeartbeats 2000000
namespace Go.Ab
open Go.Proofs
structure GTape where
 L:List Int
 at_:Int
instance:Inhabited GTape:=⟨⟨default,default⟩⟩
def GTape.v (x:GTape):V:=.agg [.sl (x.L.map (V.int .i64)),.int .i64 x.at_]
attribute [go_sem] GTape.v
def FR_4:Nat→Int→Option Str
 | 0,_=>none
 | n+1,n_ =>
 bif decide (n_<10) then some [(u8 (48+((u8 n_).toNat:Int)))] else chk (divs n_ 10) ((FR_4 n (n_ / 10)).bind fun y2=>chk (divs n_ 10) (chk (strl (y2.length+[(u8 (48+((u8 (n_ % 10)).toNat:Int)))].length)) (some (y2++[(u8 (48+((u8 (n_ % 10)).toNat:Int)))]))))
noncomputable def F_4 (n_:Int):Option Str:=lim fun n=>FR_4 n n_
def mc_4:MC :=
 (sR [mo (.mv (.c (.str []))) 2]
 (.seq (sR [oV 0 3,
 mo (.bin false .lss (.t 3) (cI 10)) 4]
 (.cond (.t 4)
 (sR [oV 0 5,
 mo (.i2i false .u8 (.t 5)) 6,
 mo (.bin false .add (.c (.int .u8 48)) (.t 6)) 7,
 mo (.bslice 1 [(.t 7)]) 8,
 mo (.b2s (.t 8)) 9,
 oV 9 2]
 .ret)
 .skip))
 (.seq (.regD [oV 0 10,
 mo (.bin true .quo (.t 10) (cI 10)) 11,
 mo (.call (.f 30) [(.t 11)] [] []) 12,
 oV 0 13,
 mo (.bin true .rem (.t 13) (cI 10)) 14,
 mo (.i2i false .u8 (.t 14)) 15,
 mo (.bin false .add (.c (.int .u8 48)) (.t 15)) 16,
 mo (.bslice 1 [(.t 16)]) 17,
 mo (.b2s (.t 17)) 18,
 mo (.bin false .add (.t 12) (.t 18)) 19,
 oV 19 2]
 [[],[0],[1],[],[3],[4],[5],[6],[7],[2,8],[9,2,0,1,2,3,4,5,6,7,8,9]]
 [[],[0],[0,1],[],[3],[3,4],[3,4,5],[3,4,5,6],[3,4,5,6,7],[0,1,2,3,4,5,6,7,8],[0,1,2,3,4,5,6,7,8,9]])
 .ret)))
theorem Wq_4 {n:Nat} (ih_ref07_Number:∀{n_:Int} {y:Str},FR_4 n n_=some y→ACall Tryz.prog 30 [.int .i64 n_] [] (fun r H=>r=.str y∧H=[])) (n_:Int) {Q:Str→Prop} {Q':V→Heap→Prop} (h:Ok (FR_4 (n+1) n_) Q) (hQ:∀z,Q z→Q' (.str z) []):ACall Tryz.prog 30 [.int .i64 n_] [] Q':=by
 refine acallM mc_4 [] [] [.t 2] Tryz.func30 fun M=>?_
 simp only [FR_4] at h
 unfold mc_4
 replace h:=tY h
 refine tB ?_
 repeat' (first
 | (exact tZ)
 | ((first|refine oblg h ?_|refine roomG h ?_|refine divG h ?_|refine fork h ?_ ?_|refine forkS h ?_ ?_)<;>clear h<;>intro hc h)
 | (obtain ⟨y,hy,h⟩:=h;have hw:=ih_ref07_Number hy;replace hw:=tY hw;(first|refine M.sC hw ?_|refine M.sD hw ?_);clear hw hy;refine tB ?_)
 | (refine tE ?_;(first|rw [M.lok_compU]|rw [M.lokD_compU]);refine tB ?_)
 | (refine tA ?_)
 | fail)
theorem WG_4:∀n,(∀{n_:Int} {y:Str},FR_4 n n_=some y→ACall Tryz.prog 30 [.int .i64 n_] [] (fun r H=>r=.str y∧H=[]))
 | 0=>fun hy=>(by simp only [FR_4] at hy;cases hy)
 | n+1=>by
  have ih_ref07_Number:=@WG_4 n
  exact fun hy=>Wq_4 ih_ref07_Number _ (Q:=(·=_)) ⟨_,hy,rfl⟩ fun|_,rfl=>⟨rfl,rfl⟩
theorem W_4:∀{n_:Int} {y:Str},F_4 n_=some y→ACall Tryz.prog 30 [.int .i64 n_] [] (fun r H=>r=.str y∧H=[]):=fun hy=>by
 obtain ⟨n,hn⟩:=lim_inv hy
 exact (WG_4 n) hn
def F_s (t_:GTape) (n_:Int):Option (Int×GTape) :=
 bif decide ((t_.L.length:Int)≤t_.at_) then some (0,t_) else chk (inb t_.at_ t_.L.length) (chk (in64 (t_.at_+1)) (chk (divs ((t_.L.getD (t_.at_).toNat default) % 2^16) n_) (some ((((t_.L.getD (t_.at_).toNat default) % 2^16) % n_),(GTape.mk t_.L (t_.at_+1))))))
def mc_s:MC :=
 (sR [oC 0 4]
 (.seq (.seq (.regD [oV 0 6,
 mo (.nck (.t 6)) 7,
 oF 1 7 8,
 oL 8 9,
 oV 0 10,
 mo (.nck (.t 10)) 11,
 oF 0 11 12,
 oL 12 13,
 mo (.len false (.t 13)) 14,
 mo (.bin false .geq (.t 9) (.t 14)) 15]
 [[],[0],[1],[2],[],[4],[5],[6],[7],[3,8]]
 [[],[0],[0,1],[0,1,2],[],[4],[4,5],[4,5,6],[4,5,6,7],[0,1,2,3,4,5,6,7,8]])
 (.cond (.t 15)
 (sR [oC 0 4]
 .ret)
 .skip))
 (.seq (.note (.gc [0,1]) (.regD [oV 0 16,
 mo (.nck (.t 16)) 17,
 oF 0 17 18,
 oL 18 19,
 oV 0 20,
 mo (.nck (.t 20)) 21,
 oF 1 21 22,
 oL 22 23,
 mo (.iad 1 (.t 19) (.t 23)) 24,
 oL 24 25,
 mo (.mask 16 (.t 25) .i64) 26,
 oV 26 5]
 [[],[0],[1],[2],[],[4],[5],[6],[3,7],[8],[9],[10,0,1,2,3,4,5,6,7,8,9,10]]
 [[],[0],[0,1],[0,1,2],[],[4],[4,5],[4,5,6],[0,1,2,3,4,5,6,7],[0,1,2,3,4,5,6,7,8],[0,1,2,3,4,5,6,7,8,9],[0,1,2,3,4,5,6,7,8,9,10]]))
 (.seq (.note (.gc [0,1,5]) (.reg [oV 0 27,
 mo (.nck (.t 27)) 28,
 oF 1 28 29,
 oL 29 30,
 mo (.bin true .add (.t 30) (cI 1)) 31,
 mo (.nck (.t 27)) 32,
 oF 1 32 33,
 ⟨.st 1 (.t 33) (.t 31),none,none⟩]))
 (.seq (.note (.gc [1,5]) (.reg [oV 5 34,
 oV 1 35,
 mo (.bin true .rem (.t 34) (.t 35)) 36,
 oV 36 4]))
 .ret)))))
theorem Wq_s {t_:GTape} {n_:Int}:Cn Tryz.prog 17 [.ptr 1000 0,.int .i64 n_] [(1000,.cells [.sl (t_.L.map (V.int .i64)),.int .i64 t_.at_])] (F_s t_ n_) (fun z=>.int .i64 z.1) (fun z=>[(1000,.cells [.sl (z.2.L.map (V.int .i64)),.int .i64 z.2.at_])]):=fun Q Q' h hQ=>by
 refine acallM mc_s [] [1000] [.t 4] Tryz.func17 fun M=>?_
 unfold F_s at h
 unfold mc_s
 replace h:=tY h
 refine tB ?_
 repeat' (first
 | (exact tZ)
 | ((first|refine oblg h ?_|refine roomG h ?_|refine divG h ?_|refine fork h ?_ ?_|refine forkS h ?_ ?_)<;>clear h<;>intro hc h)
 | (refine tE ?_;(first|rw [M.lok_compU]|rw [M.lokD_compU]);refine tB ?_)
 | (refine tA ?_)
 | fail)
def F_z (t_:GTape) (a_:Int) (b_:Int):Option (Int×GTape) :=
 chk (in64 (b_ - a_)) (chk (in64 ((b_ - a_)+1)) ((F_s t_ ((b_ - a_)+1)).bind fun y2=>chk (in64 (a_+y2.1)) (some ((a_+y2.1),y2.2))))
def mc_z:MC :=
 (sR [oC 0 6]
 (sR [oV 1 7,
 oV 0 8,
 oV 2 9,
 oV 1 10,
 mo (.bin true .sub (.t 9) (.t 10)) 11,
 mo (.bin true .add (.t 11) (cI 1)) 12,
 mo (.call (.f 17) [(.t 8),(.t 12)] [1000] []) 13,
 mo (.bin true .add (.t 7) (.t 13)) 14,
 oV 14 6]
 .ret))
theorem Wq_z {t_:GTape} {a_ b_:Int}:Cn Tryz.prog 11 [.ptr 1000 0,.int .i64 a_,.int .i64 b_] [(1000,.cells [.sl (t_.L.map (V.int .i64)),.int .i64 t_.at_])] (F_z t_ a_ b_) (fun z=>.int .i64 z.1) (fun z=>[(1000,.cells [.sl (z.2.L.map (V.int .i64)),.int .i64 z.2.at_])]):=fun Q Q' h hQ=>by
 refine acallM mc_z [] [1000] [.t 6] Tryz.func11 fun M=>?_
 unfold F_z at h
 unfold mc_z
 replace h:=tY h
 refine tB ?_
 repeat' (first
 | (exact tZ)
 | ((first|refine oblg h ?_|refine roomG h ?_|refine fork h ?_ ?_|refine forkS h ?_ ?_)<;>clear h<;>intro hc h)
 | (obtain ⟨y,hy,h⟩:=h;have hw:=Wq_s.w hy;replace hw:=tY hw;(first|refine M.sC hw ?_|refine M.sD hw ?_);clear hw hy;refine tB ?_)
 | (refine tE ?_;(first|rw [M.lok_compU]|rw [M.lokD_compU]);refine tB ?_)
 | (refine tA ?_)
 | fail)
noncomputable def FR_3:Nat→GTape→Int→Option (GTerm×GTape)
 | 0,_,_=>none
 | n+1,t_,deep_ =>
 (F_z t_ 1 11).bind fun y2=>jn (α:=Int) (grp ((decide (deep_≤1)&&decide (9≤y2.1))) fun b7=>bif b7 then chk (in64 (y2.1 - 3)) (some (y2.1 - 3)) else some y2.1) fun j5=>bif decide (j5=1) then (F_s y2.2 4).bind fun y27=>chk (inb y27.1 [[107,105,110,100,48],[107,105,110,100,49],[112,108,97,105,110,48],[110,111,110,101]].length) (some ((GTerm.mk j5 ([[107,105,110,100,48],[107,105,110,100,49],[112,108,97,105,110,48],[110,111,110,101]].getD ((y27.1).toNat) default) 0 0 []),y27.2)) else jn (α:=Bool) (bif decide (j5=2) then some true else some (decide (j5=3))) fun j28=>bif j28 then (F_s y2.2 6).bind fun y29=>chk (inb y29.1 [[97],[49,58],[102,48],[100,111,99,115,47],[33,105,110],[50]].length) (some ((GTerm.mk j5 ([[97],[49,58],[102,48],[100,111,99,115,47],[33,105,110],[50]].getD ((y29.1).toNat) default) 0 0 []),y29.2)) else bif decide (j5=7) then (F_s y2.2 4).bind fun y30=>some ((GTerm.mk j5 [] 0 (IntKind.wrap .u64 y30.1) []),y30.2) else bif decide (j5=9) then chk (in64 (deep_ - 1)) ((FR_3 n y2.2 (deep_ - 1)).bind fun y31=>some ((GTerm.mk j5 [] 0 0 [y31.1]),y31.2)) else jn (α:=Bool) (bif decide (j5=10) then some true else some (decide (j5=11))) fun j32=>bif j32 then (F_z y2.2 2 3).bind fun y34=>(loop (fun (x41:Int×Int×(List GTerm)×GTape)=>(bif decide (0<x41.1) then chk (in64 (deep_ - 1)) ((FR_3 n x41.2.2.2 (deep_ - 1)).bind fun y45=>chk (room (x41.2.2.1.length+[y45.1].length) 64) (chk (in64 (x41.1 - 1)) (some (.nx ((x41.1 - 1),x41.2.1,(x41.2.2.1++[y45.1]),y45.2))))) else some (.ex (x41.2.1,x41.2.2.1,x41.2.2.2)):Option (Fl (Int×Int×(List GTerm)×GTape) (Int×(List GTerm)×GTape)))) (y34.1,j5,[],y34.2)).bind fun r46=>some ((GTerm.mk r46.1 [] 0 0 r46.2.1),r46.2.2) else (F_s y2.2 8).bind fun y47=>some ((GTerm.mk j5 [] y47.1 0 []),y47.2)
noncomputable def F_3 (t_:GTape) (deep_:Int):Option (GTerm×GTape):=lim fun n=>FR_3 n t_ deep_
@[irreducible] def mg_44:List MOp:=[gT 12 13 (.mv (.t 5)),
 gT 12 14 (.bin false .geq (.t 13) (cI 9)),
 mo (.pick (.t 12) (.t 14) (.c (.bool false))) 15]
@[irreducible] def mc_45:MC :=
 (.seq (sR [oV 7 60,
 mo (.bin false .gtr (.t 60) (cI 0)) 61]
 (.cond (.t 61)
 .skip
 (.exit 1)))
 (.seq (.block 2
 (.regD [oF 4 6 64,
 oL 64 65,
 oV 0 66,
 oV 1 67,
 mo (.bin true .sub (.t 67) (cI 1)) 68,
 mo (.call (.f 21) [(.t 66),(.t 68)] [1000] []) 69,
 mo (.bslice 5 [(.t 69)]) 70,
 mo (.app 5 64 (.t 65) (.t 70)) 71,
 oF 4 6 72,
 ⟨.st 1 (.t 72) (.t 71),none,none⟩]
 [[],[0],[],[],[3],[2,4],[5],[1,6,5],[0,1,2,3,4,5,6,7],[8,7,7,0,1,2,3,4,5,6,7]]
 [[],[0],[],[],[3],[2,3,4],[2,3,4,5],[0,1,2,3,4,5,6],[0,1,2,3,4,5,6,7],[0,1,2,3,4,5,6,7,8]]))
 (.note (.gc [0,1,4,6,7]) (.reg [oV 7 62,
 mo (.bin true .sub (.t 62) (cI 1)) 63,
 oV 63 7]))))
@[irreducible] def mc_46:MC :=
 (.cond (.t 55)
 (sR [oV 0 58,
 mo (.call (.f 11) [(.t 58),(cI 2),(cI 3)] [1000] []) 59,
 oV 59 7]
 (.block 1
 (.loop mc_45)))
 (.reg [oV 0 21,
 mo (.call (.f 17) [(.t 21),(cI 8)] [1000] []) 22,
 oF 2 6 23,
 ⟨.st 1 (.t 23) (.t 22),none,none⟩]))
@[irreducible] def mc_47:MC :=
 (.cond (.t 32)
 (.reg [mo (.bslice 1 [(.c (.str [97])),(.c (.str [49,58])),(.c (.str [102,48])),(.c (.str [100,111,99,115,47])),(.c (.str [33,105,110])),(.c (.str [50]))]) 35,
 oV 0 36,
 mo (.call (.f 17) [(.t 36),(cI 6)] [1000] []) 37,
 mo (.iad 1 (.t 35) (.t 37)) 38,
 oL 38 39,
 oF 1 6 40,
 ⟨.st 1 (.t 40) (.t 39),none,none⟩])
 (sR [mo (.bin false .eql (.t 20) (cI 7)) 42,
 oV 42 41]
 (.cond (.t 41)
 (.reg [oV 0 43,
 mo (.call (.f 17) [(.t 43),(cI 4)] [1000] []) 44,
 mo (.i2i false .u64 (.t 44)) 45,
 oF 3 6 46,
 ⟨.st 1 (.t 46) (.t 45),none,none⟩])
 (sR [mo (.bin false .eql (.t 20) (cI 9)) 48,
 oV 48 47]
 (.cond (.t 47)
 (.reg [oV 0 49,
 oV 1 50,
 mo (.bin true .sub (.t 50) (cI 1)) 51,
 mo (.call (.f 21) [(.t 49),(.t 51)] [1000] []) 52,
 mo (.bslice 5 [(.t 52)]) 53,
 oF 4 6 54,
 ⟨.st 1 (.t 54) (.t 53),none,none⟩])
 (.cut (sR [mo (.bin false .eql (.t 20) (cI 10)) 56,
 oV 56 55]
 (.cond (.t 55)
 .skip
 (.reg [mo (.bin false .eql (.t 20) (cI 11)) 57,
 oV 57 55])))
 mc_46))))))
@[irreducible] def mc_48:MC :=
 (sR [oV 5 18,
 mo (.build [(.int .i64 0),(.str []),(.int .i64 0),(.int .u64 0),.nils] [(0,1,(.t 18))]) 19,
 mo (.alloc [(.int .i64 0),(.str []),(.int .i64 0),(.int .u64 0),(.sl [])]) 6,
 ⟨.st 5 (.t 6) (.t 19),none,none⟩]
 (.seq (sR [oV 5 20]
 (.block 0
 (sR [mo (.bin false .eql (.t 20) (cI 1)) 25,
 oV 25 24]
 (.cond (.t 24)
 (.reg [mo (.bslice 1 [(.c (.str [107,105,110,100,48])),(.c (.str [107,105,110,100,49])),(.c (.str [112,108,97,105,110,48])),(.c (.str [110,111,110,101]))]) 26,
 oV 0 27,
 mo (.call (.f 17) [(.t 27),(cI 4)] [1000] []) 28,
 mo (.iad 1 (.t 26) (.t 28)) 29,
 oL 29 30,
 oF 1 6 31,
 ⟨.st 1 (.t 31) (.t 30),none,none⟩])
 (.cut (sR [mo (.bin false .eql (.t 20) (cI 2)) 33,
 oV 33 32]
 (.cond (.t 32)
 .skip
 (.reg [mo (.bin false .eql (.t 20) (cI 3)) 34,
 oV 34 32])))
 mc_47)))))
 (sR [mo (.ld (some 5) (.t 6)) 73,
 ⟨.st 5 (.t 4) (.t 73),none,none⟩]
 .ret)))
def mc_3:MC :=
 (sR [mo (.alloc [(.int .i64 0),(.str []),(.int .i64 0),(.int .u64 0),(.sl [])]) 4]
 (sR [oV 0 8,
 mo (.call (.f 11) [(.t 8),(cI 1),(cI 11)] [1000] []) 9,
 oV 9 5]
 (.cut (.seq (.regI [.op (oV 1 10),
 .op (mo (.bin false .leq (.t 10) (cI 1)) 11),
 .op (oV 11 12),
 .grp mg_44])
 (.cond (.t 15)
 (.reg [oV 5 16,
 mo (.bin true .sub (.t 16) (cI 3)) 17,
 oV 17 5])
 .skip))
 mc_48)))
theorem Wq_3 {n:Nat} (ih_made_Term:∀{t_:GTape} {deep_:Int} {y:GTerm×GTape},FR_3 n t_ deep_=some y→ACall Tryz.prog 21 [.ptr 1000 0,.int .i64 deep_] [(1000,.cells [.sl (t_.L.map (V.int .i64)),.int .i64 t_.at_])] (fun r H=>r=GTerm.v y.1∧H=[(1000,.cells [.sl (y.2.L.map (V.int .i64)),.int .i64 y.2.at_])])) (t_:GTape) (deep_:Int) {Q:GTerm×GTape→Prop} {Q':V→Heap→Prop} (h:Ok (FR_3 (n+1) t_ deep_) Q) (hQ:∀z,Q z→Q' (GTerm.v z.1) [(1000,.cells [.sl (z.2.L.map (V.int .i64)),.int .i64 z.2.at_])]):ACall Tryz.prog 21 [.ptr 1000 0,.int .i64 deep_] [(1000,.cells [.sl (t_.L.map (V.int .i64)),.int .i64 t_.at_])] Q':=by
 refine acallM mc_3 [.fzc 4] [1000] [.c 4 (some 5)] Tryz.func21 fun M=>?_
 simp only [FR_3] at h
 unfold mc_3
 replace h:=tY h
 refine tB ?_
 repeat' (first
 | (exact tZ)
 | ((first|refine oblg h ?_|refine roomG h ?_|refine inbG h ?_|refine fork h ?_ ?_|refine forkS h ?_ ?_)<;>clear h<;>intro hc h)
 | (obtain ⟨y,hy,h⟩:=h;(first|with_reducible first|have hw:=Wq_z.w hy|have hw:=Wq_s.w hy|have hw:=ih_made_Term hy);replace hw:=tY hw;(first|refine M.sC hw ?_|refine M.sD hw ?_);clear hw hy;refine tB ?_)
 | (refine M.gv1 (ms:=mg_44) 15 [13,14] h ?_ ?_<;>first
 | (clear h;intro K hK1;unfold mg_44;refine tB ?_)
 | (clear h;intro b h;replace h:=tY h;refine tB ?_))
 | (refine M.wh1 (b:=mc_45) [0,1,4,6] [6,4] (fun x=>[(7,.int .i64 x.1)]) (fun x=>[.p 6 0 [.int .i64 x.2.1],.p 6 4 [.osl 4100 5 0 x.2.2.1.length],.o 4100 (.arr 5 (x.2.2.1.map GTerm.v)),.o 1000 (.cells [.sl (x.2.2.2.L.map (V.int .i64)),.int .i64 x.2.2.2.at_])]) [.gc [0,1,4,6,7],.ownC 6 4 4100 5 none] h ?_ ?_<;>first
 | (clear h;intro x Qn K hK2 h;unfold mc_45;replace h:=tY h;refine tB ?_)
  |(clear h;(try refine tB ?_);exact tU0;done))
 | (refine M.jn1 (b:=mc_46) [0,1,4,6] [6,4,1000] (fun y=>[(55,.bool y)]) (fun y=>[]) [] h ?_ ?_<;>first
 | (clear h;intro Qn K hK3 h;replace h:=tY h;refine tB ?_)
  |(clear h;intro y h;unfold mc_46;replace h:=tY h;refine tB ?_))
 | (refine M.jn1 (b:=mc_47) [0,1,4,6,20] [6,4,1000] (fun y=>[(32,.bool y)]) (fun y=>[]) [] h ?_ ?_<;>first
 | (clear h;intro Qn K hK4 h;replace h:=tY h;refine tB ?_)
  |(clear h;intro y h;unfold mc_47;replace h:=tY h;refine tB ?_))
 | (refine M.jn1 (b:=mc_48) [0,1,4] [4,1000] (fun y=>[(5,.int .i64 y)]) (fun y=>[]) [] h ?_ ?_<;>first
 | (clear h;intro Qn K hK5 h;replace h:=tY h;refine tB ?_)
  |(clear h;intro y h;unfold mc_48;replace h:=tY h;refine tB ?_))
 | (refine hK1 _ ?_;exact tU;done)
 | ((first|refine hK2 _ ?_|refine hK3 _ ?_|refine hK4 _ ?_|refine hK5 _ ?_);(try refine tB ?_);refine ⟨_,h,?_⟩;exact tU0;done)
 | (refine bfork (fun hc=>?_) (fun hc=>?_))
 | (refine tE4 V.str ?_;(first|rw [M.lok_compU]|rw [M.lokD_compU]|(simp only [V.cells];first|rw [M.lok_comp]|rw [M.lokD_comp]));refine tB ?_)
 | (refine tE ?_;(first|rw [M.lok_compU]|rw [M.lokD_compU]);refine tB ?_)
 | (refine tA ?_)
 | fail)
theorem WG_3:∀n,(∀{t_:GTape} {deep_:Int} {y:GTerm×GTape},FR_3 n t_ deep_=some y→ACall Tryz.prog 21 [.ptr 1000 0,.int .i64 deep_] [(1000,.cells [.sl (t_.L.map (V.int .i64)),.int .i64 t_.at_])] (fun r H=>r=GTerm.v y.1∧H=[(1000,.cells [.sl (y.2.L.map (V.int .i64)),.int .i64 y.2.at_])]))
 | 0=>fun hy=>(by simp only [FR_3] at hy;cases hy)
 | n+1=>by
  have ih_made_Term:=@WG_3 n
  exact fun hy=>Wq_3 ih_made_Term _ _ (Q:=(·=_)) ⟨_,hy,rfl⟩ fun|_,rfl=>⟨rfl,rfl⟩
theorem W_3:∀{t_:GTape} {deep_:Int} {y:GTerm×GTape},F_3 t_ deep_=some y→ACall Tryz.prog 21 [.ptr 1000 0,.int .i64 deep_] [(1000,.cells [.sl (t_.L.map (V.int .i64)),.int .i64 t_.at_])] (fun r H=>r=GTerm.v y.1∧H=[(1000,.cells [.sl (y.2.L.map (V.int .i64)),.int .i64 y.2.at_])]):=fun hy=>by
 obtain ⟨n,hn⟩:=lim_inv hy
 exact (WG_3 n) hn
noncomputable def F_2k (n_:Int) (x37:Int×(List GRule)×GTape):Option (Fl (Int×(List GRule)×GTape) ((List GRule)×GTape)) :=
 bif decide (x37.1<n_) then (F_4 x37.1).bind fun y47=>chk (strl ([114].length+y47.length)) ((F_3 x37.2.2 3).bind fun y48=>(F_z y48.2 1 2).bind fun y49=>chk (room (x37.2.1.length+[(GRule.mk (([114]:Str)++y47) y48.1 y49.1)].length) 88) (chk (in64 (x37.1+1)) (some (.nx ((x37.1+1),(x37.2.1++[(GRule.mk (([114]:Str)++y47) y48.1 y49.1)]),y49.2))))) else some (.ex (x37.2.1,x37.2.2))
noncomputable def F_1v (t_:GTape) (n_:Int):Option ((List GRule)×GTape) :=
 (loop (F_2k n_) (0,[],t_)).bind fun r50=>some (r50.1,r50.2)
@[irreducible] def mc_2k:MC :=
 (.seq (sR [oV 6 7,
 oV 1 8,
 mo (.bin false .lss (.t 7) (.t 8)) 9]
 (.cond (.t 9)
 .skip
 (.exit 0)))
 (.seq (.block 1
 (.reg [oV 5 12,
 oV 6 13,
 mo (.call (.f 30) [(.t 13)] [] []) 14,
 mo (.bin false .add (.c (.str [114])) (.t 14)) 15,
 oV 0 16,
 mo (.call (.f 21) [(.t 16),(cI 3)] [1000] []) 17,
 oV 0 18,
 mo (.call (.f 11) [(.t 18),(cI 1),(cI 2)] [1000] []) 19,
 mo (.build [(.str []),(.int .i64 0),(.str []),(.int .i64 0),(.int .u64 0),(.sl []),(.int .i64 0)] [(0,1,(.t 15)),(1,5,(.t 17)),(6,1,(.t 19))]) 20,
 mo (.bslice 7 [(.t 20)]) 21,
 mo (.app 7 88 (.t 12) (.t 21)) 22,
 oV 22 5]))
 (.note (.gc [0,1,5,6]) (.reg [oV 6 10,
 mo (.bin true .add (.t 10) (cI 1)) 11,
 oV 11 6]))))
def mc_1v:MC :=
 (sR [mo (.mv (.c (.sl []))) 4]
 (sR [mo (.mv (.c .nils)) 5]
 (.seq (sR [oC 0 6]
 (.block 0
 (.loop mc_2k)))
 (sR [oV 5 23,
 oV 23 4]
 .ret))))
theorem Wq_1v {t_:GTape} {n_:Int}:Cn Tryz.prog 10 [.ptr 1000 0,.int .i64 n_] [(1000,.cells [.sl (t_.L.map (V.int .i64)),.int .i64 t_.at_])] (F_1v t_ n_) (fun z=>.sl (z.1.map GRule.v)) (fun z=>[(1000,.cells [.sl (z.2.L.map (V.int .i64)),.int .i64 z.2.at_])]):=fun Q Q' h hQ=>by
 refine acallM mc_1v [.fz 4] [1000] [.t 4] Tryz.func10 fun M=>?_
 unfold F_1v at h
 unfold mc_1v
 replace h:=tY h
 refine tB ?_
 repeat' (first
 | (exact tZ)
 | ((first|refine oblg h ?_|refine roomG h ?_|refine fork h ?_ ?_|refine forkS h ?_ ?_)<;>clear h<;>intro hc h)
 | (obtain ⟨y,hy,h⟩:=h;(first|with_reducible first|have hw:=W_4 hy|have hw:=W_3 hy|have hw:=Wq_z.w hy);replace hw:=tY hw;(first|refine M.sC hw ?_|refine M.sD hw ?_);clear hw hy;refine tB ?_)
 | (refine M.wh1 (b:=mc_2k) [0,1] [] (fun x=>[(5,.osl 2005 7 0 x.2.1.length),(6,.int .i64 x.1)]) (fun x=>[.o 2005 (.arr 7 (x.2.1.map GRule.v)),.o 1000 (.cells [.sl (x.2.2.L.map (V.int .i64)),.int .i64 x.2.2.at_])]) [.gc [0,1,5,6],.acc 5 2005 7] h ?_ ?_<;>first
 | (clear h;intro x Qn K hK1 h;unfold F_2k at h;unfold mc_2k;replace h:=tY h;refine tB ?_)
  |(clear h;(try refine tB ?_);exact tU0;done))
 | (refine hK1 _ ?_;(try refine tB ?_);refine ⟨_,h,?_⟩;exact tU0;done)
 | (refine tE ?_;(first|rw [M.lok_compU]|rw [M.lokD_compU]);refine tB ?_)
 | (refine tA ?_)
 | fail)
noncomputable def F_25 (s_:Str) (x59:Int):Option (Fl Int (Sum Unit Bool)) :=
 bif decide (x59<(s_.length:Int)) then jn (α:=Fl Unit Bool) (chk (inb x59 s_.length) (bif decide (((s_.getD (x59).toNat 0).toNat:Int)<97) then jn (α:=Str×Int×UInt8×Bool×Bool×Bool×Bool) (chk (inb x59 s_.length) (bif decide (((s_.getD (x59).toNat 0).toNat:Int)<48) then some (s_,x59,(s_.getD (x59).toNat 0),decide (((s_.getD (x59).toNat 0).toNat:Int)<48),true,true,true) else chk (inb x59 s_.length) (some (s_,x59,(s_.getD (x59).toNat 0),decide (((s_.getD (x59).toNat 0).toNat:Int)<48),false,decide (57<((s_.getD (x59).toNat 0).toNat:Int)),decide (57<((s_.getD (x59).toNat 0).toNat:Int)))))) fun j83=>jn (α:=Bool) (bif j83.2.2.2.2.2.2 then chk (inb x59 s_.length) (some (!decide (((s_.getD (x59).toNat 0).toNat:Int)=45))) else some false) fun j84=>bif j84 then some (.ex false) else some (.nx ()) else chk (inb x59 s_.length) (jn (α:=Bool) (bif decide (122<((s_.getD (x59).toNat 0).toNat:Int)) then chk (inb x59 s_.length) (bif decide (((s_.getD (x59).toNat 0).toNat:Int)<48) then some true else chk (inb x59 s_.length) (some (decide (57<((s_.getD (x59).toNat 0).toNat:Int))))) else some false) fun j85=>jn (α:=Bool) (bif j85 then chk (inb x59 s_.length) (some (!decide (((s_.getD (x59).toNat 0).toNat:Int)=45))) else some false) fun j86=>bif j86 then some (.ex false) else some (.nx ())))) fun o=>o.elim (fun j78=>chk (in64 (x59+1)) (some (.nx (x59+1)))) (fun r87=>some (.ex (.inr r87))) else some (.ex (.inl ()))
noncomputable def F_1w (s_:Str):Option Bool :=
 (loop (F_25 s_) 0).bind fun r88=>Sum.elim (fun u89=>grp ((decide (1≤(s_.length:Int))&&decide ((s_.length:Int)≤40))) fun b92=>some b92) (fun u90=>some u90) r88
@[irreducible] def mg_2p:List MOp:=[gT 20 21 (.mv (.t 0)),
 gT 20 22 (.mv (.t 3)),
 gT 20 23 (.idx (.t 21) (.t 22)),
 gT 20 24 (.bin false .lss (.t 23) (.c (.int .u8 48))),
 gT 20 25 (.mv (.t 24)),
 gF 25 26 (.mv (.t 0)),
 gF 25 27 (.mv (.t 3)),
 gF 25 28 (.idx (.t 26) (.t 27)),
 gF 25 29 (.bin false .gtr (.t 28) (.c (.int .u8 57))),
 gT 20 30 (.pick (.t 25) (.c (.bool true)) (.t 29)),
 mo (.pick (.t 20) (.t 30) (.c (.bool false))) 31]
@[irreducible] def mg_2q:List MOp:=[gT 32 33 (.mv (.t 0)),
 gT 32 34 (.mv (.t 3)),
 gT 32 35 (.idx (.t 33) (.t 34)),
 gT 32 36 (.bin false .neq (.t 35) (.c (.int .u8 45))),
 mo (.pick (.t 32) (.t 36) (.c (.bool false))) 37]
@[irreducible] def mc_49:MC :=
 (.reg [oV 3 8,
 mo (.bin true .add (.t 8) (cI 1)) 9,
 oV 9 3])
@[irreducible] def mc_25:MC :=
 (.seq (sR [oV 3 4,
 oV 0 5,
 mo (.len true (.t 5)) 6,
 mo (.bin false .lss (.t 4) (.t 6)) 7]
 (.cond (.t 7)
 .skip
 (.exit 0)))
 (.cut (.block 1
 (.seq (.regI [.op (oV 0 10),
 .op (oV 3 11),
 .op (mo (.idx (.t 10) (.t 11)) 12),
 .op (mo (.bin false .lss (.t 12) (.c (.int .u8 97))) 13),
 .op (oV 13 14),
 .op (gF 14 15 (.mv (.t 0))),
 .op (gF 14 16 (.mv (.t 3))),
 .op (gF 14 17 (.idx (.t 15) (.t 16))),
 .op (gF 14 18 (.bin false .gtr (.t 17) (.c (.int .u8 122)))),
 .op (mo (.pick (.t 14) (.c (.bool true)) (.t 18)) 19),
 .op (oV 19 20),
 .grp mg_2p,
 .op (oV 31 32),
 .grp mg_2q])
 (.cond (.t 37)
 (sR [mo (.mv (.c (.bool false))) 2]
 .ret)
 .skip)))
 mc_49))
@[irreducible] def mg_4a:List MOp:=[gT 41 42 (.mv (.t 0)),
 gT 41 43 (.len true (.t 42)),
 gT 41 44 (.bin false .leq (.t 43) (cI 40)),
 mo (.pick (.t 41) (.t 44) (.c (.bool false))) 45]
def mc_1w:MC :=
 (sR [mo (.mv (.c (.bool false))) 2]
 (.seq (sR [oC 0 3]
 (.block 0
 (.loop mc_25)))
 (.seq (.regI [.op (oV 0 38),
 .op (mo (.len true (.t 38)) 39),
 .op (mo (.bin false .geq (.t 39) (cI 1)) 40),
 .op (oV 40 41),
 .grp mg_4a,
 .op (oV 45 2)])
 .ret)))
theorem Wq_1w {s_:Str}:Cn Tryz.prog 49 [.str s_] [] (F_1w s_) (fun z=>.bool z) (fun z=>[]):=fun Q Q' h hQ=>by
 refine acallM mc_1w [] [] [.t 2] Tryz.func49 fun M=>?_
 unfold F_1w at h
 unfold mc_1w
 replace h:=tY h
 refine tB ?_
 repeat' (first
 | (exact tZ)
 | ((first|refine oblg h ?_|refine roomG h ?_|refine fork h ?_ ?_|refine forkS h ?_ ?_)<;>clear h<;>intro hc h)
 | (refine M.gj1 (ms:=mg_2q) [0,3,21,22,23,24,25,30] [] (fun y=>[(37,.bool y)]) (fun y=>[]) h ?_ ?_<;>first
 | (clear h;intro Qn K hK1 h;unfold mg_2q;replace h:=tY h;refine tB ?_)
  |(clear h;intro y h;replace h:=tY h;refine tB ?_))
 | (refine M.gj1 (ms:=mg_2p) [0,3] [] (fun y=>[(21,.str y.1),(22,.int .i64 y.2.1),(23,byteV y.2.2.1),(24,.bool y.2.2.2.1),(25,.bool y.2.2.2.2.1),(30,.bool y.2.2.2.2.2.1),(31,.bool y.2.2.2.2.2.2)]) (fun y=>[]) h ?_ ?_<;>first
 | (clear h;intro Qn K hK2 h;unfold mg_2p;replace h:=tY h;refine tB ?_)
  |(clear h;intro y h;replace h:=tY h;refine tB ?_))
 | (refine M.gj1 (ms:=mg_2q) [0,3,15,16,17,18] [] (fun y=>[(37,.bool y)]) (fun y=>[]) h ?_ ?_<;>first
 | (clear h;intro Qn K hK3 h;unfold mg_2q;replace h:=tY h;refine tB ?_)
  |(clear h;intro y h;replace h:=tY h;refine tB ?_))
 | (refine M.gj1 (ms:=mg_2p) [0,3,15,16,17,18] [] (fun y=>[(31,.bool y)]) (fun y=>[]) h ?_ ?_<;>first
 | (clear h;intro Qn K hK4 h;unfold mg_2p;replace h:=tY h;refine tB ?_)
  |(clear h;intro y h;replace h:=tY h;refine tB ?_))
 | (refine M.jnE (b:=mc_49) [0,3] [] (fun y=>[]) (fun y=>[]) [] h ?_ ?_<;>first
 | (clear h;intro Qn K hK5 h;replace h:=tY h;refine tB ?_)
  |(clear h;intro y h;unfold mc_49;replace h:=tY h;refine tB ?_))
 | (refine M.wh1 (b:=mc_25) [0] [] (fun x=>[(3,.int .i64 x)]) (fun x=>[]) [] h ?_ ?_<;>first
 | (clear h;intro x Qn K hK6 h;unfold F_25 at h;unfold mc_25;replace h:=tY h;refine tB ?_)
  |(clear h;(try refine tB ?_);exact tU0;done))
 | (refine M.gv1 (ms:=mg_4a) 45 [42,43,44] h ?_ ?_<;>first
 | (clear h;intro K hK7;unfold mg_4a;refine tB ?_)
 | (clear h;intro b h;replace h:=tY h;refine tB ?_))
 | ((first|refine hK1 _ ?_|refine hK2 _ ?_|refine hK3 _ ?_|refine hK4 _ ?_|refine hK5 _ ?_|refine hK6 _ ?_);(try refine tB ?_);refine ⟨_,h,?_⟩;exact tU0;done)
 | (refine hK7 _ ?_;exact tU;done)
 | (refine bfork (fun hc=>?_) (fun hc=>?_))
 | (refine tE ?_;(first|rw [M.lok_compU]|rw [M.lokD_compU]);refine tB ?_)
 | (refine tA ?_)
 | fail)
noncomputable def FR_e:Nat→GTerm→Int→Option Int
 | 0,_,_=>none
 | n+1,c_,have_ =>
 chk (in64 (have_+1)) ((loop (fun (x37:Int×Int)=>(grp ((decide (x37.2<(c_.Kids.length:Int))&&decide (x37.1≤60))) fun b47=>bif b47 then chk (inb x37.2 c_.Kids.length) ((FR_e n (c_.Kids.getD (x37.2).toNat default) x37.1).bind fun y49=>chk (in64 (x37.2+1)) (some (.nx (y49,(x37.2+1))))) else some (.ex x37.1):Option (Fl (Int×Int) Int))) ((have_+1),0)).bind fun r50=>some r50)
noncomputable def F_e (c_:GTerm) (have_:Int):Option Int:=lim fun n=>FR_e n c_ have_
@[irreducible] def mg_4b:List MOp:=[gT 13 14 (.mv (.t 1)),
 gT 13 15 (.bin false .leq (.t 14) (cI 60)),
 mo (.pick (.t 13) (.t 15) (.c (.bool false))) 16]
@[irreducible] def mc_4c:MC :=
 (.seq (.seq (.regI [.op (oV 5 8),
 .op (oF 4 2 9),
 .op (oL 9 10),
 .op (mo (.len false (.t 10)) 11),
 .op (mo (.bin false .lss (.t 8) (.t 11)) 12),
 .op (oV 12 13),
 .grp mg_4b])
 (.cond (.t 16)
 .skip
 (.exit 0)))
 (.seq (.block 1
 (.reg [oF 4 2 19,
 oL 19 20,
 oV 5 21,
 mo (.iad 5 (.t 20) (.t 21)) 22,
 mo (.ld (some 5) (.t 22)) 23,
 oV 1 24,
 mo (.call (.f 84) [(.t 23),(.t 24)] [] []) 25,
 oV 25 1]))
 (.note (.gc [1,2,5,14,15]) (.reg [oV 5 17,
 mo (.bin true .add (.t 17) (cI 1)) 18,
 oV 18 5]))))
def mc_e:MC :=
 (sR [mo (.box (.t 0)) 2,
 oC 0 4]
 (sR [oV 1 6,
 mo (.bin true .add (.t 6) (cI 1)) 7,
 oV 7 1]
 (.seq (sR [oC 0 5]
 (.block 0
 (.loop mc_4c)))
 (sR [oV 1 26,
 oV 26 4]
 .ret))))
theorem Wq_e {n:Nat} (ih_ref21_count:∀{c_:GTerm} {have_:Int} {y:Int},FR_e n c_ have_=some y→ACall Tryz.prog 84 [GTerm.v c_,.int .i64 have_] [] (fun r H=>r=.int .i64 y∧H=[])) (c_:GTerm) (have_:Int) {Q:Int→Prop} {Q':V→Heap→Prop} (h:Ok (FR_e (n+1) c_ have_) Q) (hQ:∀z,Q z→Q' (.int .i64 z) []):ACall Tryz.prog 84 [GTerm.v c_,.int .i64 have_] [] Q':=by
 refine acallM mc_e [] [] [.t 4] Tryz.func84 fun M=>?_
 simp only [FR_e] at h
 unfold mc_e
 replace h:=tY h
 refine tB ?_
 repeat' (first
 | (exact tZ)
 | ((first|refine oblg h ?_|refine roomG h ?_|refine fork h ?_ ?_|refine forkS h ?_ ?_)<;>clear h<;>intro hc h)
 | (obtain ⟨y,hy,h⟩:=h;have hw:=ih_ref21_count hy;replace hw:=tY hw;(first|refine M.sC hw ?_|refine M.sD hw ?_);clear hw hy;refine tB ?_)
 | (refine M.gv1 (ms:=mg_4b) 16 [14,15] h ?_ ?_<;>first
 | (clear h;intro K hK1;unfold mg_4b;refine tB ?_)
 | (clear h;intro b h;replace h:=tY h;refine tB ?_))
 | (refine M.wh1 (b:=mc_4c) [2] [2] (fun x=>[(1,.int .i64 x.1),(5,.int .i64 x.2)]) (fun x=>[]) [] h ?_ ?_<;>first
 | (clear h;intro x Qn K hK2 h;unfold mc_4c;replace h:=tY h;refine tB ?_)
  |(clear h;(try refine tB ?_);exact tU0;done))
 | (refine hK1 _ ?_;exact tU;done)
 | (refine hK2 _ ?_;(try refine tB ?_);refine ⟨_,h,?_⟩;exact tU0;done)
 | (refine bfork (fun hc=>?_) (fun hc=>?_))
 | (refine tE ?_;(first|rw [M.lok_compU]|rw [M.lokD_compU]);refine tB ?_)
 | (refine tA ?_)
 | fail)
theorem WG_e:∀n,(∀{c_:GTerm} {have_:Int} {y:Int},FR_e n c_ have_=some y→ACall Tryz.prog 84 [GTerm.v c_,.int .i64 have_] [] (fun r H=>r=.int .i64 y∧H=[]))
 | 0=>fun hy=>(by simp only [FR_e] at hy;cases hy)
 | n+1=>by
  have ih_ref21_count:=@WG_e n
  exact fun hy=>Wq_e ih_ref21_count _ _ (Q:=(·=_)) ⟨_,hy,rfl⟩ fun|_,rfl=>⟨rfl,rfl⟩
theorem W_e:∀{c_:GTerm} {have_:Int} {y:Int},F_e c_ have_=some y→ACall Tryz.prog 84 [GTerm.v c_,.int .i64 have_] [] (fun r H=>r=.int .i64 y∧H=[]):=fun hy=>by
 obtain ⟨n,hn⟩:=lim_inv hy
 exact (WG_e n) hn
noncomputable def FR_f:Nat→GTerm→Option Int
 | 0,_=>none
 | n+1,c_ =>
 (loop (fun (x17:Int×Int)=>(bif decide (x17.2<(c_.Kids.length:Int)) then chk (inb x17.2 c_.Kids.length) ((FR_f n (c_.Kids.getD (x17.2).toNat default)).bind fun y21=>chk (in64 (x17.2+1)) (some (.nx ((max x17.1 y21),(x17.2+1))))) else some (.ex x17.1):Option (Fl (Int×Int) Int))) (0,0)).bind fun r22=>chk (in64 (r22+1)) (some (r22+1))
noncomputable def F_f (c_:GTerm):Option Int:=lim fun n=>FR_f n c_
@[irreducible] def mc_4d:MC :=
 (.seq (sR [oV 4 5,
 oF 4 1 6,
 oL 6 7,
 mo (.len false (.t 7)) 8,
 mo (.bin false .lss (.t 5) (.t 8)) 9]
 (.cond (.t 9)
 .skip
 (.exit 0)))
 (.seq (.block 1
 (.reg [oV 3 12,
 oF 4 1 13,
 oL 13 14,
 oV 4 15,
 mo (.iad 5 (.t 14) (.t 15)) 16,
 mo (.ld (some 5) (.t 16)) 17,
 mo (.call (.f 85) [(.t 17)] [] []) 18,
 mo (.mm true (.t 12) (.t 18)) 19,
 oV 19 3]))
 (.note (.gc [1,3,4]) (.reg [oV 4 10,
 mo (.bin true .add (.t 10) (cI 1)) 11,
 oV 11 4]))))
def mc_f:MC :=
 (sR [mo (.box (.t 0)) 1,
 oC 0 2]
 (sR [oC 0 3]
 (.seq (sR [oC 0 4]
 (.block 0
 (.loop mc_4d)))
 (sR [oV 3 20,
 mo (.bin true .add (.t 20) (cI 1)) 21,
 oV 21 2]
 .ret))))
theorem Wq_f {n:Nat} (ih_ref21_depth:∀{c_:GTerm} {y:Int},FR_f n c_=some y→ACall Tryz.prog 85 [GTerm.v c_] [] (fun r H=>r=.int .i64 y∧H=[])) (c_:GTerm) {Q:Int→Prop} {Q':V→Heap→Prop} (h:Ok (FR_f (n+1) c_) Q) (hQ:∀z,Q z→Q' (.int .i64 z) []):ACall Tryz.prog 85 [GTerm.v c_] [] Q':=by
 refine acallM mc_f [] [] [.t 2] Tryz.func85 fun M=>?_
 simp only [FR_f] at h
 unfold mc_f
 replace h:=tY h
 refine tB ?_
 repeat' (first
 | (exact tZ)
 | ((first|refine oblg h ?_|refine roomG h ?_|refine fork h ?_ ?_|refine forkS h ?_ ?_)<;>clear h<;>intro hc h)
 | (obtain ⟨y,hy,h⟩:=h;have hw:=ih_ref21_depth hy;replace hw:=tY hw;(first|refine M.sC hw ?_|refine M.sD hw ?_);clear hw hy;refine tB ?_)
 | (refine M.wh1 (b:=mc_4d) [1] [1] (fun x=>[(3,.int .i64 x.1),(4,.int .i64 x.2)]) (fun x=>[]) [] h ?_ ?_<;>first
 | (clear h;intro x Qn K hK1 h;unfold mc_4d;replace h:=tY h;refine tB ?_)
  |(clear h;(try refine tB ?_);exact tU0;done))
 | (refine hK1 _ ?_;(try refine tB ?_);refine ⟨_,h,?_⟩;exact tU0;done)
 | (refine tE ?_;(first|rw [M.lok_compU]|rw [M.lokD_compU]);refine tB ?_)
 | (refine tA ?_)
 | fail)
theorem WG_f:∀n,(∀{c_:GTerm} {y:Int},FR_f n c_=some y→ACall Tryz.prog 85 [GTerm.v c_] [] (fun r H=>r=.int .i64 y∧H=[]))
 | 0=>fun hy=>(by simp only [FR_f] at hy;cases hy)
 | n+1=>by
  have ih_ref21_depth:=@WG_f n
  exact fun hy=>Wq_f ih_ref21_depth _ (Q:=(·=_)) ⟨_,hy,rfl⟩ fun|_,rfl=>⟨rfl,rfl⟩
theorem W_f:∀{c_:GTerm} {y:Int},F_f c_=some y→ACall Tryz.prog 85 [GTerm.v c_] [] (fun r H=>r=.int .i64 y∧H=[]):=fun hy=>by
 obtain ⟨n,hn⟩:=lim_inv hy
 exact (WG_f n) hn
noncomputable def F_26 (s_:Str) (x9:Int):Option (Fl Int (Sum Unit Bool)) :=
 bif decide (x9<(s_.length:Int)) then chk (inb x9 s_.length) (bif decide (((s_.getD (x9).toNat 0).toNat:Int)<33) then some (.ex (.inr false)) else chk (inb x9 s_.length) (bif decide (126<((s_.getD (x9).toNat 0).toNat:Int)) then some (.ex (.inr false)) else chk (inb x9 s_.length) (bif decide (((s_.getD (x9).toNat 0).toNat:Int)=34) then some (.ex (.inr false)) else chk (in64 (x9+1)) (some (.nx (x9+1)))))) else some (.ex (.inl ()))
noncomputable def F_1x (s_:Str):Option Bool :=
 (loop (F_26 s_) 0).bind fun r10=>Sum.elim (fun u11=>grp ((decide (1≤(s_.length:Int))&&decide ((s_.length:Int)≤40))) fun b14=>some b14) (fun u12=>some u12) r10
@[irreducible] def mc_26:MC :=
 (.seq (sR [oV 3 4,
 oV 0 5,
 mo (.len true (.t 5)) 6,
 mo (.bin false .lss (.t 4) (.t 6)) 7]
 (.cond (.t 7)
 .skip
 (.exit 0)))
 (.seq (.block 1
 (sR [oV 0 10,
 oV 3 11,
 mo (.idx (.t 10) (.t 11)) 12,
 mo (.bin false .lss (.t 12) (.c (.int .u8 33))) 13,
 oV 13 14,
 gF 14 15 (.mv (.t 0)),
 gF 14 16 (.mv (.t 3)),
 gF 14 17 (.idx (.t 15) (.t 16)),
 gF 14 18 (.bin false .gtr (.t 17) (.c (.int .u8 126))),
 mo (.pick (.t 14) (.c (.bool true)) (.t 18)) 19,
 oV 19 20,
 gF 20 21 (.mv (.t 0)),
 gF 20 22 (.mv (.t 3)),
 gF 20 23 (.idx (.t 21) (.t 22)),
 gF 20 24 (.bin false .eql (.t 23) (.c (.int .u8 34))),
 mo (.pick (.t 20) (.c (.bool true)) (.t 24)) 25]
 (.cond (.t 25)
 (sR [mo (.mv (.c (.bool false))) 2]
 .ret)
 .skip)))
 (.note (.gc [0,3,15,16,17,18,21,22,23,24,30,31,32]) (.reg [oV 3 8,
 mo (.bin true .add (.t 8) (cI 1)) 9,
 oV 9 3]))))
@[irreducible] def mg_4e:List MOp:=[gT 29 30 (.mv (.t 0)),
 gT 29 31 (.len true (.t 30)),
 gT 29 32 (.bin false .leq (.t 31) (cI 40)),
 mo (.pick (.t 29) (.t 32) (.c (.bool false))) 33]
def mc_1x:MC :=
 (sR [mo (.mv (.c (.bool false))) 2]
 (.seq (sR [oC 0 3]
 (.block 0
 (.loop mc_26)))
 (.seq (.regI [.op (oV 0 26),
 .op (mo (.len true (.t 26)) 27),
 .op (mo (.bin false .geq (.t 27) (cI 1)) 28),
 .op (oV 28 29),
 .grp mg_4e,
 .op (oV 33 2)])
 .ret)))
theorem Wq_1x {s_:Str}:Cn Tryz.prog 116 [.str s_] [] (F_1x s_) (fun z=>.bool z) (fun z=>[]):=fun Q Q' h hQ=>by
 refine acallM mc_1x [] [] [.t 2] Tryz.func116 fun M=>?_
 unfold F_1x at h
 unfold mc_1x
 replace h:=tY h
 refine tB ?_
 repeat' (first
 | (exact tZ)
 | ((first|refine oblg h ?_|refine roomG h ?_|refine fork h ?_ ?_|refine forkS h ?_ ?_)<;>clear h<;>intro hc h)
 | (refine M.wh1 (b:=mc_26) [0] [] (fun x=>[(3,.int .i64 x)]) (fun x=>[]) [] h ?_ ?_<;>first
 | (clear h;intro x Qn K hK1 h;unfold F_26 at h;unfold mc_26;replace h:=tY h;refine tB ?_)
  |(clear h;(try refine tB ?_);exact tU0;done))
 | (refine M.gv1 (ms:=mg_4e) 33 [30,31,32] h ?_ ?_<;>first
 | (clear h;intro K hK2;unfold mg_4e;refine tB ?_)
 | (clear h;intro b h;replace h:=tY h;refine tB ?_))
 | (refine hK1 _ ?_;(try refine tB ?_);refine ⟨_,h,?_⟩;exact tU0;done)
 | (refine hK2 _ ?_;exact tU;done)
 | (refine bfork (fun hc=>?_) (fun hc=>?_))
 | (refine tE ?_;(first|rw [M.lok_compU]|rw [M.lokD_compU]);refine tB ?_)
 | (refine tA ?_)
 | fail)
noncomputable def FR_g:Nat→GTerm→Option Bool
 | 0,_=>none
 | n+1,c_ =>
 jn (α:=Bool) (jn (α:=Bool) (bif decide (c_.Op=1) then some true else bif decide (c_.Op=2) then some true else some (decide (c_.Op=3))) fun j21=>bif j21 then (F_1x c_.Text).bind fun y22=>grp ((y22&&decide (c_.Number=0))) fun b23=>grp ((b23&&decide (c_.Print=0))) fun b24=>grp ((b24&&decide ((c_.Kids.length:Int)=0))) fun b25=>some b25 else jn (α:=Bool) (bif decide (c_.Op=4) then some true else bif decide (c_.Op=5) then some true else bif decide (c_.Op=6) then some true else some (decide (c_.Op=8))) fun j26=>bif j26 then grp ((decide (c_.Text=[])&&decide (0≤c_.Number))) fun b27=>grp ((b27&&decide (c_.Number≤1099511627776))) fun b28=>grp ((b28&&decide (c_.Print=0))) fun b29=>grp ((b29&&decide ((c_.Kids.length:Int)=0))) fun b30=>some b30 else bif decide (c_.Op=7) then grp ((decide (c_.Text=[])&&decide (c_.Number=0))) fun b31=>grp ((b31&&decide ((c_.Kids.length:Int)=0))) fun b32=>some b32 else bif decide (c_.Op=9) then grp ((decide (c_.Text=[])&&decide (c_.Number=0))) fun b33=>grp ((b33&&decide (c_.Print=0))) fun b34=>grp ((b34&&decide ((c_.Kids.length:Int)=1))) fun b35=>some b35 else jn (α:=Bool) (bif decide (c_.Op=10) then some true else some (decide (c_.Op=11))) fun j36=>bif j36 then grp ((decide (c_.Text=[])&&decide (c_.Number=0))) fun b37=>grp ((b37&&decide (c_.Print=0))) fun b38=>grp ((b38&&decide (2≤(c_.Kids.length:Int)))) fun b39=>some b39 else some false) fun j20=>(loop (fun (x76:Bool×Int)=>(grp ((decide (x76.2<(c_.Kids.length:Int))&&x76.1)) fun b86=>bif b86 then chk (inb x76.2 c_.Kids.length) ((FR_g n (c_.Kids.getD (x76.2).toNat default)).bind fun y88=>chk (in64 (x76.2+1)) (some (.nx (y88,(x76.2+1))))) else some (.ex x76.1):Option (Fl (Bool×Int) Bool))) (j20,0)).bind fun r89=>some r89
noncomputable def F_g (c_:GTerm):Option Bool:=lim fun n=>FR_g n c_
@[irreducible] def mg_4f:List MOp:=[gT 14 15 (.fad 2 (.t 1)),
 gT 14 16 (.ld none (.t 15)),
 gT 14 17 (.bin false .eql (.t 16) (cI 0)),
 mo (.pick (.t 14) (.t 17) (.c (.bool false))) 18]
@[irreducible] def mg_4g:List MOp:=[gT 19 20 (.fad 3 (.t 1)),
 gT 19 21 (.ld none (.t 20)),
 gT 19 22 (.bin false .eql (.t 21) (.c (.int .u64 0))),
 mo (.pick (.t 19) (.t 22) (.c (.bool false))) 23]
@[irreducible] def mg_4h:List MOp:=[gT 24 25 (.fad 4 (.t 1)),
 gT 24 26 (.ld none (.t 25)),
 gT 24 27 (.len false (.t 26)),
 gT 24 28 (.bin false .eql (.t 27) (cI 0)),
 mo (.pick (.t 24) (.t 28) (.c (.bool false))) 29]
@[irreducible] def mg_4i:List MOp:=[gT 38 39 (.fad 2 (.t 1)),
 gT 38 40 (.ld none (.t 39)),
 gT 38 41 (.bin false .geq (.t 40) (cI 0)),
 mo (.pick (.t 38) (.t 41) (.c (.bool false))) 42]
@[irreducible] def mg_4j:List MOp:=[gT 43 44 (.fad 2 (.t 1)),
 gT 43 45 (.ld none (.t 44)),
 gT 43 46 (.bin false .leq (.t 45) (cI 1099511627776)),
 mo (.pick (.t 43) (.t 46) (.c (.bool false))) 47]
@[irreducible] def mg_4k:List MOp:=[gT 48 49 (.fad 3 (.t 1)),
 gT 48 50 (.ld none (.t 49)),
 gT 48 51 (.bin false .eql (.t 50) (.c (.int .u64 0))),
 mo (.pick (.t 48) (.t 51) (.c (.bool false))) 52]
@[irreducible] def mg_4l:List MOp:=[gT 53 54 (.fad 4 (.t 1)),
 gT 53 55 (.ld none (.t 54)),
 gT 53 56 (.len false (.t 55)),
 gT 53 57 (.bin false .eql (.t 56) (cI 0)),
 mo (.pick (.t 53) (.t 57) (.c (.bool false))) 58]
@[irreducible] def mg_4m:List MOp:=[gT 64 65 (.fad 2 (.t 1)),
 gT 64 66 (.ld none (.t 65)),
 gT 64 67 (.bin false .eql (.t 66) (cI 0)),
 mo (.pick (.t 64) (.t 67) (.c (.bool false))) 68]
@[irreducible] def mg_4n:List MOp:=[gT 69 70 (.fad 4 (.t 1)),
 gT 69 71 (.ld none (.t 70)),
 gT 69 72 (.len false (.t 71)),
 gT 69 73 (.bin false .eql (.t 72) (cI 0)),
 mo (.pick (.t 69) (.t 73) (.c (.bool false))) 74]
@[irreducible] def mg_4o:List MOp:=[gT 80 81 (.fad 2 (.t 1)),
 gT 80 82 (.ld none (.t 81)),
 gT 80 83 (.bin false .eql (.t 82) (cI 0)),
 mo (.pick (.t 80) (.t 83) (.c (.bool false))) 84]
@[irreducible] def mg_4p:List MOp:=[gT 85 86 (.fad 3 (.t 1)),
 gT 85 87 (.ld none (.t 86)),
 gT 85 88 (.bin false .eql (.t 87) (.c (.int .u64 0))),
 mo (.pick (.t 85) (.t 88) (.c (.bool false))) 89]
@[irreducible] def mg_4q:List MOp:=[gT 90 91 (.fad 4 (.t 1)),
 gT 90 92 (.ld none (.t 91)),
 gT 90 93 (.len false (.t 92)),
 gT 90 94 (.bin false .eql (.t 93) (cI 1)),
 mo (.pick (.t 90) (.t 94) (.c (.bool false))) 95]
@[irreducible] def mg_4r:List MOp:=[gT 102 103 (.fad 2 (.t 1)),
 gT 102 104 (.ld none (.t 103)),
 gT 102 105 (.bin false .eql (.t 104) (cI 0)),
 mo (.pick (.t 102) (.t 105) (.c (.bool false))) 106]
@[irreducible] def mg_4s:List MOp:=[gT 107 108 (.fad 3 (.t 1)),
 gT 107 109 (.ld none (.t 108)),
 gT 107 110 (.bin false .eql (.t 109) (.c (.int .u64 0))),
 mo (.pick (.t 107) (.t 110) (.c (.bool false))) 111]
@[irreducible] def mg_4t:List MOp:=[gT 112 113 (.fad 4 (.t 1)),
 gT 112 114 (.ld none (.t 113)),
 gT 112 115 (.len false (.t 114)),
 gT 112 116 (.bin false .geq (.t 115) (cI 2)),
 mo (.pick (.t 112) (.t 116) (.c (.bool false))) 117]
@[irreducible] def mc_4u:MC :=
 (.cond (.t 96)
 (.regI [.op (oF 1 1 99),
 .op (oL 99 100),
 .op (mo (.bin false .eql (.t 100) (.c (.str []))) 101),
 .op (oV 101 102),
 .grp mg_4r,
 .op (oV 106 107),
 .grp mg_4s,
 .op (oV 111 112),
 .grp mg_4t,
 .op (oV 117 3)])
 .skip)
@[irreducible] def mc_4v:MC :=
 (.cond (.t 30)
 (.regI [.op (oF 1 1 35),
 .op (oL 35 36),
 .op (mo (.bin false .eql (.t 36) (.c (.str []))) 37),
 .op (oV 37 38),
 .grp mg_4i,
 .op (oV 42 43),
 .grp mg_4j,
 .op (oV 47 48),
 .grp mg_4k,
 .op (oV 52 53),
 .grp mg_4l,
 .op (oV 58 3)])
 (sR [mo (.bin false .eql (.t 6) (cI 7)) 60,
 oV 60 59]
 (.cond (.t 59)
 (.regI [.op (oF 1 1 61),
 .op (oL 61 62),
 .op (mo (.bin false .eql (.t 62) (.c (.str []))) 63),
 .op (oV 63 64),
 .grp mg_4m,
 .op (oV 68 69),
 .grp mg_4n,
 .op (oV 74 3)])
 (sR [mo (.bin false .eql (.t 6) (cI 9)) 76,
 oV 76 75]
 (.cond (.t 75)
 (.regI [.op (oF 1 1 77),
 .op (oL 77 78),
 .op (mo (.bin false .eql (.t 78) (.c (.str []))) 79),
 .op (oV 79 80),
 .grp mg_4o,
 .op (oV 84 85),
 .grp mg_4p,
 .op (oV 89 90),
 .grp mg_4q,
 .op (oV 95 3)])
 (.cut (sR [mo (.bin false .eql (.t 6) (cI 10)) 97,
 oV 97 96]
 (.cond (.t 96)
 .skip
 (.reg [mo (.bin false .eql (.t 6) (cI 11)) 98,
 oV 98 96])))
 mc_4u))))))
@[irreducible] def mc_4w:MC :=
 (.cond (.t 7)
 (.regI [.op (oF 1 1 11),
 .op (oL 11 12),
 .op (mo (.call (.f 116) [(.t 12)] [] []) 13),
 .op (oV 13 14),
 .grp mg_4f,
 .op (oV 18 19),
 .grp mg_4g,
 .op (oV 23 24),
 .grp mg_4h,
 .op (oV 29 3)])
 (.cut (sR [mo (.bin false .eql (.t 6) (cI 4)) 31,
 oV 31 30]
 (.cond (.t 30)
 .skip
 (sR [mo (.bin false .eql (.t 6) (cI 5)) 32,
 oV 32 30]
 (.cond (.t 30)
 .skip
 (sR [mo (.bin false .eql (.t 6) (cI 6)) 33,
 oV 33 30]
 (.cond (.t 30)
 .skip
 (.reg [mo (.bin false .eql (.t 6) (cI 8)) 34,
 oV 34 30])))))))
 mc_4v))
@[irreducible] def mg_4x:List MOp:=[gT 123 124 (.mv (.t 3)),
 mo (.pick (.t 123) (.t 124) (.c (.bool false))) 125]
@[irreducible] def mc_4y:MC :=
 (.seq (.seq (.regI [.op (oV 4 118),
 .op (oF 4 1 119),
 .op (oL 119 120),
 .op (mo (.len false (.t 120)) 121),
 .op (mo (.bin false .lss (.t 118) (.t 121)) 122),
 .op (oV 122 123),
 .grp mg_4x])
 (.cond (.t 125)
 .skip
 (.exit 1)))
 (.seq (.block 2
 (.note (.gc [1,4,124]) (.reg [oF 4 1 128,
 oL 128 129,
 oV 4 130,
 mo (.iad 5 (.t 129) (.t 130)) 131,
 mo (.ld (some 5) (.t 131)) 132,
 mo (.call (.f 86) [(.t 132)] [] []) 133,
 oV 133 3])))
 (.reg [oV 4 126,
 mo (.bin true .add (.t 126) (cI 1)) 127,
 oV 127 4])))
@[irreducible] def mc_4z:MC :=
 (.seq (sR [oC 0 4]
 (.block 1
 (.loop mc_4y)))
 (sR [oV 3 134,
 oV 134 2]
 .ret))
def mc_g:MC :=
 (sR [mo (.box (.t 0)) 1,
 mo (.mv (.c (.bool false))) 2]
 (sR [mo (.mv (.c (.bool false))) 3]
 (.cut (sR [oF 0 1 5,
 oL 5 6]
 (.block 0
 (.cut (sR [mo (.bin false .eql (.t 6) (cI 1)) 8,
 oV 8 7]
 (.cond (.t 7)
 .skip
 (sR [mo (.bin false .eql (.t 6) (cI 2)) 9,
 oV 9 7]
 (.cond (.t 7)
 .skip
 (.reg [mo (.bin false .eql (.t 6) (cI 3)) 10,
 oV 10 7])))))
 mc_4w)))
 mc_4z)))
theorem Wq_g {n:Nat} (ih_ref21_right:∀{c_:GTerm} {y:Bool},FR_g n c_=some y→ACall Tryz.prog 86 [GTerm.v c_] [] (fun r H=>r=.bool y∧H=[])) (c_:GTerm) {Q:Bool→Prop} {Q':V→Heap→Prop} (h:Ok (FR_g (n+1) c_) Q) (hQ:∀z,Q z→Q' (.bool z) []):ACall Tryz.prog 86 [GTerm.v c_] [] Q':=by
 refine acallM mc_g [] [] [.t 2] Tryz.func86 fun M=>?_
 simp only [FR_g] at h
 unfold mc_g
 replace h:=tY h
 refine tB ?_
 repeat' (first
 | (exact tZ)
 | ((first|refine oblg h ?_|refine roomG h ?_|refine fork h ?_ ?_|refine forkS h ?_ ?_)<;>clear h<;>intro hc h)
 | (obtain ⟨y,hy,h⟩:=h;(first|with_reducible first|have hw:=Wq_1x.w hy|have hw:=ih_ref21_right hy);replace hw:=tY hw;(first|refine M.sC hw ?_|refine M.sD hw ?_);clear hw hy;refine tB ?_)
 | (refine M.gv1 (ms:=mg_4h) 29 [25,26,27,28] h ?_ ?_<;>first
 | (clear h;intro K hK1;unfold mg_4h;refine tB ?_)
 | (clear h;intro b h;replace h:=tY h;refine tB ?_))
 | (refine M.gv1 (ms:=mg_4g) 23 [20,21,22] h ?_ ?_<;>first
 | (clear h;intro K hK2;unfold mg_4g;refine tB ?_)
 | (clear h;intro b h;replace h:=tY h;refine tB ?_))
 | (refine M.gv1 (ms:=mg_4f) 18 [15,16,17] h ?_ ?_<;>first
 | (clear h;intro K hK3;unfold mg_4f;refine tB ?_)
 | (clear h;intro b h;replace h:=tY h;refine tB ?_))
 | (refine M.gv1 (ms:=mg_4l) 58 [54,55,56,57] h ?_ ?_<;>first
 | (clear h;intro K hK4;unfold mg_4l;refine tB ?_)
 | (clear h;intro b h;replace h:=tY h;refine tB ?_))
 | (refine M.gv1 (ms:=mg_4k) 52 [49,50,51] h ?_ ?_<;>first
 | (clear h;intro K hK5;unfold mg_4k;refine tB ?_)
 | (clear h;intro b h;replace h:=tY h;refine tB ?_))
 | (refine M.gv1 (ms:=mg_4j) 47 [44,45,46] h ?_ ?_<;>first
 | (clear h;intro K hK6;unfold mg_4j;refine tB ?_)
 | (clear h;intro b h;replace h:=tY h;refine tB ?_))
 | (refine M.gv1 (ms:=mg_4i) 42 [39,40,41] h ?_ ?_<;>first
 | (clear h;intro K hK7;unfold mg_4i;refine tB ?_)
 | (clear h;intro b h;replace h:=tY h;refine tB ?_))
 | (refine M.gv1 (ms:=mg_4n) 74 [70,71,72,73] h ?_ ?_<;>first
 | (clear h;intro K hK8;unfold mg_4n;refine tB ?_)
 | (clear h;intro b h;replace h:=tY h;refine tB ?_))
 | (refine M.gv1 (ms:=mg_4m) 68 [65,66,67] h ?_ ?_<;>first
 | (clear h;intro K hK9;unfold mg_4m;refine tB ?_)
 | (clear h;intro b h;replace h:=tY h;refine tB ?_))
 | (refine M.gv1 (ms:=mg_4q) 95 [91,92,93,94] h ?_ ?_<;>first
 | (clear h;intro K hK10;unfold mg_4q;refine tB ?_)
 | (clear h;intro b h;replace h:=tY h;refine tB ?_))
 | (refine M.gv1 (ms:=mg_4p) 89 [86,87,88] h ?_ ?_<;>first
 | (clear h;intro K hK11;unfold mg_4p;refine tB ?_)
 | (clear h;intro b h;replace h:=tY h;refine tB ?_))
 | (refine M.gv1 (ms:=mg_4o) 84 [81,82,83] h ?_ ?_<;>first
 | (clear h;intro K hK12;unfold mg_4o;refine tB ?_)
 | (clear h;intro b h;replace h:=tY h;refine tB ?_))
 | (refine M.gv1 (ms:=mg_4t) 117 [113,114,115,116] h ?_ ?_<;>first
 | (clear h;intro K hK13;unfold mg_4t;refine tB ?_)
 | (clear h;intro b h;replace h:=tY h;refine tB ?_))
 | (refine M.gv1 (ms:=mg_4s) 111 [108,109,110] h ?_ ?_<;>first
 | (clear h;intro K hK14;unfold mg_4s;refine tB ?_)
 | (clear h;intro b h;replace h:=tY h;refine tB ?_))
 | (refine M.gv1 (ms:=mg_4r) 106 [103,104,105] h ?_ ?_<;>first
 | (clear h;intro K hK15;unfold mg_4r;refine tB ?_)
 | (clear h;intro b h;replace h:=tY h;refine tB ?_))
 | (refine M.jn1 (b:=mc_4u) [1,3] [1] (fun y=>[(96,.bool y)]) (fun y=>[]) [] h ?_ ?_<;>first
 | (clear h;intro Qn K hK16 h;replace h:=tY h;refine tB ?_)
  |(clear h;intro y h;unfold mc_4u;replace h:=tY h;refine tB ?_))
 | (refine M.jn1 (b:=mc_4v) [1,3,6] [1] (fun y=>[(30,.bool y)]) (fun y=>[]) [] h ?_ ?_<;>first
 | (clear h;intro Qn K hK17 h;replace h:=tY h;refine tB ?_)
  |(clear h;intro y h;unfold mc_4v;replace h:=tY h;refine tB ?_))
 | (refine M.jn1 (b:=mc_4w) [1,3,6] [1] (fun y=>[(7,.bool y)]) (fun y=>[]) [] h ?_ ?_<;>first
 | (clear h;intro Qn K hK18 h;replace h:=tY h;refine tB ?_)
  |(clear h;intro y h;unfold mc_4w;replace h:=tY h;refine tB ?_))
 | (refine M.gv1 (ms:=mg_4x) 125 [124] h ?_ ?_<;>first
 | (clear h;intro K hK19;unfold mg_4x;refine tB ?_)
 | (clear h;intro b h;replace h:=tY h;refine tB ?_))
 | (refine M.wh1 (b:=mc_4y) [1] [1] (fun x=>[(3,.bool x.1),(4,.int .i64 x.2)]) (fun x=>[]) [] h ?_ ?_<;>first
 | (clear h;intro x Qn K hK20 h;unfold mc_4y;replace h:=tY h;refine tB ?_)
  |(clear h;(try refine tB ?_);exact tU0;done))
 | (refine M.jn1 (b:=mc_4z) [1] [1] (fun y=>[(3,.bool y)]) (fun y=>[]) [] h ?_ ?_<;>first
 | (clear h;intro Qn K hK21 h;replace h:=tY h;refine tB ?_)
  |(clear h;intro y h;unfold mc_4z;replace h:=tY h;refine tB ?_))
 | ((first|refine hK1 _ ?_|refine hK2 _ ?_|refine hK3 _ ?_|refine hK4 _ ?_|refine hK5 _ ?_|refine hK6 _ ?_|refine hK7 _ ?_|refine hK8 _ ?_|refine hK9 _ ?_|refine hK10 _ ?_|refine hK11 _ ?_|refine hK12 _ ?_|refine hK13 _ ?_|refine hK14 _ ?_|refine hK15 _ ?_|refine hK19 _ ?_);exact tU;done)
 | ((first|refine hK16 _ ?_|refine hK17 _ ?_|refine hK18 _ ?_|refine hK20 _ ?_|refine hK21 _ ?_);(try refine tB ?_);refine ⟨_,h,?_⟩;exact tU0;done)
 | (refine bfork (fun hc=>?_) (fun hc=>?_))
 | (refine tE ?_;(first|rw [M.lok_compU]|rw [M.lokD_compU]);refine tB ?_)
 | (refine tA ?_)
 | fail)
theorem WG_g:∀n,(∀{c_:GTerm} {y:Bool},FR_g n c_=some y→ACall Tryz.prog 86 [GTerm.v c_] [] (fun r H=>r=.bool y∧H=[]))
 | 0=>fun hy=>(by simp only [FR_g] at hy;cases hy)
 | n+1=>by
  have ih_ref21_right:=@WG_g n
  exact fun hy=>Wq_g ih_ref21_right _ (Q:=(·=_)) ⟨_,hy,rfl⟩ fun|_,rfl=>⟨rfl,rfl⟩
theorem W_g:∀{c_:GTerm} {y:Bool},F_g c_=some y→ACall Tryz.prog 86 [GTerm.v c_] [] (fun r H=>r=.bool y∧H=[]):=fun hy=>by
 obtain ⟨n,hn⟩:=lim_inv hy
 exact (WG_g n) hn
noncomputable def F_1y (c_:GTerm):Option Int :=
 (F_e c_ 0).bind fun y4=>bif decide (60<y4) then some 3 else (F_f c_).bind fun y8=>bif decide (20<y8) then some 9 else (F_g c_).bind fun y12=>bif (!y12) then some 1 else some 0
def mc_1y:MC :=
 (sR [mo (.box (.t 0)) 1,
 oC 0 2]
 (.seq (sR [mo (.ld (some 5) (.t 1)) 3,
 mo (.call (.f 84) [(.t 3),(cI 0)] [] []) 4,
 mo (.bin false .gtr (.t 4) (cI 60)) 5]
 (.cond (.t 5)
 (sR [oC 3 2]
 .ret)
 .skip))
 (.seq (sR [mo (.ld (some 5) (.t 1)) 6,
 mo (.call (.f 85) [(.t 6)] [] []) 7,
 mo (.bin false .gtr (.t 7) (cI 20)) 8]
 (.cond (.t 8)
 (sR [oC 9 2]
 .ret)
 .skip))
 (.seq (.seq (.note (.gc [1]) (.reg [mo (.ld (some 5) (.t 1)) 9,
 mo (.call (.f 86) [(.t 9)] [] []) 10,
 mo (.not (.t 10)) 11]))
 (.cond (.t 11)
 (sR [oC 1 2]
 .ret)
 .skip))
 (sR [oC 0 2]
 .ret)))))
theorem Wq_1y {c_:GTerm}:Cn Tryz.prog 50 [GTerm.v c_] [] (F_1y c_) (fun z=>.int .i64 z) (fun z=>[]):=fun Q Q' h hQ=>by
 refine acallM mc_1y [] [] [.t 2] Tryz.func50 fun M=>?_
 unfold F_1y at h
 unfold mc_1y
 replace h:=tY h
 refine tB ?_
 repeat' (first
 | (exact tZ)
 | ((first|refine oblg h ?_|refine roomG h ?_|refine fork h ?_ ?_|refine forkS h ?_ ?_)<;>clear h<;>intro hc h)
 | (obtain ⟨y,hy,h⟩:=h;(first|with_reducible first|have hw:=W_e hy|have hw:=W_f hy|have hw:=W_g hy);replace hw:=tY hw;(first|refine M.sC hw ?_|refine M.sD hw ?_);clear hw hy;refine tB ?_)
 | (refine tE ?_;(first|rw [M.lok_compU]|rw [M.lokD_compU]);refine tB ?_)
 | (refine tA ?_)
 | fail)
noncomputable def F_27 (l_:List GRule) (x109:Int):Option (Fl Int (Sum Unit Int)) :=
 bif decide (x109<(l_.length:Int)) then chk (inb x109 l_.length) ((F_1w ((l_.getD (x109).toNat default).Name)).bind fun y143=>bif (!y143) then some (.ex (.inr 4)) else chk (inb x109 l_.length) ((F_1y ((l_.getD (x109).toNat default).When)).bind fun y147=>bif (!decide (y147=0)) then some (.ex (.inr y147)) else chk (inb x109 l_.length) (jn (α:=Bool) (bif (!decide ((l_.getD (x109).toNat default).Verdict=1)) then chk (inb x109 l_.length) (some (!decide ((l_.getD (x109).toNat default).Verdict=2))) else some false) fun j149=>bif j149 then some (.ex (.inr 1)) else chk (in64 (x109+1)) (some (.nx (x109+1)))))) else some (.ex (.inl ()))
noncomputable def F_2l (l_:List GRule) (x221:Int) (x242:Int):Option (Fl Int (Sum Unit Int)) :=
 bif decide (x242<x221) then chk (inb x221 l_.length) (chk (inb x242 l_.length) (bif decide ((l_.getD (x221).toNat default).Name=(l_.getD (x242).toNat default).Name) then some (.ex (.inr 7)) else chk (in64 (x242+1)) (some (.nx (x242+1))))) else some (.ex (.inl ()))
noncomputable def F_2m (l_:List GRule) (x221:Int):Option (Fl Int (Sum Unit Int)) :=
 bif decide (x221<(l_.length:Int)) then (loop (F_2l l_ x221) 0).bind fun r243=>Sum.elim (fun u244=>chk (in64 (x221+1)) (some (.nx (x221+1)))) (fun u245=>some (.ex (.inr u245))) r243 else some (.ex (.inl ()))
noncomputable def F_1z (l_:List GRule):Option Int :=
 bif decide (40<(l_.length:Int)) then some 3 else (loop (F_27 l_) 0).bind fun r150=>Sum.elim (fun u151=>(loop (F_2m l_) 0).bind fun r246=>Sum.elim (fun u247=>some 0) (fun u248=>some u248) r246) (fun u152=>some u152) r150
@[irreducible] def mg_50:List MOp:=[gT 38 39 (.mv (.t 0)),
 gT 38 40 (.mv (.t 3)),
 gT 38 41 (.iad 7 (.t 39) (.t 40)),
 gT 38 42 (.fad 6 (.t 41)),
 gT 38 43 (.ld none (.t 42)),
 gT 38 44 (.bin false .neq (.t 43) (cI 2)),
 mo (.pick (.t 38) (.t 44) (.c (.bool false))) 45]
@[irreducible] def mc_27:MC :=
 (.seq (sR [oV 3 10,
 oV 0 11,
 mo (.len false (.t 11)) 12,
 mo (.bin false .lss (.t 10) (.t 12)) 13]
 (.cond (.t 13)
 .skip
 (.exit 0)))
 (.seq (.block 1
 (.seq (sR [oV 0 16,
 oV 3 17,
 mo (.iad 7 (.t 16) (.t 17)) 18,
 oF 0 18 19,
 oL 19 20,
 mo (.call (.f 49) [(.t 20)] [] []) 21,
 mo (.not (.t 21)) 22]
 (.cond (.t 22)
 (sR [oC 4 2]
 .ret)
 .skip))
 (.seq (.seq (.note (.gc [0,3,39,40,41,42,43,44]) (.reg [oV 0 23,
 oV 3 24,
 mo (.iad 7 (.t 23) (.t 24)) 25,
 oF 1 25 26,
 mo (.ld (some 5) (.t 26)) 27,
 mo (.call (.f 50) [(.t 27)] [] []) 28,
 oV 28 4]))
 (sR [oV 4 29,
 mo (.bin false .neq (.t 29) (cI 0)) 30]
 (.cond (.t 30)
 (sR [oV 4 31,
 oV 31 2]
 .ret)
 .skip)))
 (.seq (.note (.gc [0,3,39,40,41,42,43,44]) (.regI [.op (oV 0 32),
 .op (oV 3 33),
 .op (mo (.iad 7 (.t 32) (.t 33)) 34),
 .op (oF 6 34 35),
 .op (oL 35 36),
 .op (mo (.bin false .neq (.t 36) (cI 1)) 37),
 .op (oV 37 38),
 .grp mg_50]))
 (.cond (.t 45)
 (sR [oC 1 2]
 .ret)
 .skip)))))
 (.reg [oV 3 14,
 mo (.bin true .add (.t 14) (cI 1)) 15,
 oV 15 3])))
@[irreducible] def mc_2l:MC :=
 (.seq (sR [oV 6 52,
 oV 5 53,
 mo (.bin false .lss (.t 52) (.t 53)) 54]
 (.cond (.t 54)
 .skip
 (.exit 4)))
 (.seq (.block 5
 (.seq (.regD [oV 0 57,
 oV 5 58,
 mo (.iad 7 (.t 57) (.t 58)) 59,
 oF 0 59 60,
 oL 60 61,
 oV 0 62,
 oV 6 63,
 mo (.iad 7 (.t 62) (.t 63)) 64,
 oF 0 64 65,
 oL 65 66,
 mo (.bin false .eql (.t 61) (.t 66)) 67]
 [[],[],[0,1],[2],[3],[],[],[5,6],[7],[8],[4,9]]
 [[],[],[0,1],[0,1,2],[0,1,2,3],[],[],[5,6],[5,6,7],[5,6,7,8],[0,1,2,3,4,5,6,7,8,9]])
 (.cond (.t 67)
 (sR [oC 7 2]
 .ret)
 .skip)))
 (.note (.gc [0,5,6]) (.reg [oV 6 55,
 mo (.bin true .add (.t 55) (cI 1)) 56,
 oV 56 6]))))
@[irreducible] def mc_2m:MC :=
 (.seq (sR [oV 5 46,
 oV 0 47,
 mo (.len false (.t 47)) 48,
 mo (.bin false .lss (.t 46) (.t 48)) 49]
 (.cond (.t 49)
 .skip
 (.exit 2)))
 (.seq (.block 3
 (sR [oC 0 6]
 (.block 4
 (.loop mc_2l))))
 (.reg [oV 5 50,
 mo (.bin true .add (.t 50) (cI 1)) 51,
 oV 51 5])))
def mc_1z:MC :=
 (sR [oC 0 2]
 (.seq (sR [oV 0 7,
 mo (.len false (.t 7)) 8,
 mo (.bin false .gtr (.t 8) (cI 40)) 9]
 (.cond (.t 9)
 (sR [oC 3 2]
 .ret)
 .skip))
 (.seq (sR [oC 0 3]
 (.block 0
 (.loop mc_27)))
 (.seq (sR [oC 0 5]
 (.block 2
 (.loop mc_2m)))
 (sR [oC 0 2]
 .ret)))))
theorem Wq_1z {l_:List GRule}:Cn Tryz.prog 28 [.sl (l_.map GRule.v)] [] (F_1z l_) (fun z=>.int .i64 z) (fun z=>[]):=fun Q Q' h hQ=>by
 refine acallM mc_1z [] [] [.t 2] Tryz.func28 fun M=>?_
 unfold F_1z at h
 unfold mc_1z
 replace h:=tY h
 refine tB ?_
 repeat' (first
 | (exact tZ)
 | ((first|refine oblg h ?_|refine roomG h ?_|refine fork h ?_ ?_|refine forkS h ?_ ?_)<;>clear h<;>intro hc h)
 | (obtain ⟨y,hy,h⟩:=h;(first|with_reducible first|have hw:=Wq_1w.w hy|have hw:=Wq_1y.w hy);replace hw:=tY hw;(first|refine M.sC hw ?_|refine M.sD hw ?_);clear hw hy;refine tB ?_)
 | (refine M.gj1 (ms:=mg_50) [0,3] [] (fun y=>[(45,.bool y)]) (fun y=>[]) h ?_ ?_<;>first
 | (clear h;intro Qn K hK1 h;unfold mg_50;replace h:=tY h;refine tB ?_)
  |(clear h;intro y h;replace h:=tY h;refine tB ?_))
 | (refine M.wh1 (b:=mc_27) [0] [] (fun x=>[(3,.int .i64 x)]) (fun x=>[]) [] h ?_ ?_<;>first
 | (clear h;intro x Qn K hK2 h;unfold F_27 at h;unfold mc_27;replace h:=tY h;refine tB ?_)
  |(clear h;(try refine tB ?_);exact tU0;done))
 | (refine M.wh1 (b:=mc_2l) [0,5] [] (fun x=>[(6,.int .i64 x)]) (fun x=>[]) [] h ?_ ?_<;>first
 | (clear h;intro x Qn K hK3 h;unfold F_2l at h;unfold mc_2l;replace h:=tY h;refine tB ?_)
  |(clear h;(try refine tB ?_);exact tU0;done))
 | (refine M.wh1 (b:=mc_2m) [0] [] (fun x=>[(5,.int .i64 x)]) (fun x=>[]) [] h ?_ ?_<;>first
 | (clear h;intro x Qn K hK4 h;unfold F_2m at h;unfold mc_2m;replace h:=tY h;refine tB ?_)
  |(clear h;(try refine tB ?_);exact tU0;done))
 | ((first|refine hK1 _ ?_|refine hK2 _ ?_|refine hK3 _ ?_|refine hK4 _ ?_);(try refine tB ?_);refine ⟨_,h,?_⟩;exact tU0;done)
 | (refine tE ?_;(first|rw [M.lok_compU]|rw [M.lokD_compU]);refine tB ?_)
 | (refine tA ?_)
 | fail)
def F_17:Option (List Str) :=
 some [[],[107,105,110,100],[112,97,116,104],[101,110,100,115],[115,111,117,114,99,101],[100,101,112,116,104],[108,101,110,103,116,104],[112,114,105,110,116],[98,101,102,111,114,101],[110,111,116],[97,110,100],[111,114]]
def mc_17:MC :=
 (sR [mo (.mv (.c (.sl []))) 0]
 (sR [mo (.bslice 1 [(.c (.str [])),(.c (.str [107,105,110,100])),(.c (.str [112,97,116,104])),(.c (.str [101,110,100,115])),(.c (.str [115,111,117,114,99,101])),(.c (.str [100,101,112,116,104])),(.c (.str [108,101,110,103,116,104])),(.c (.str [112,114,105,110,116])),(.c (.str [98,101,102,111,114,101])),(.c (.str [110,111,116])),(.c (.str [97,110,100])),(.c (.str [111,114]))]) 1,
 oV 1 0]
 .ret))
theorem Wq_17:Cn Tryz.prog 51 [] [] F_17 (fun z=>.sl (z.map V.str)) (fun z=>[]):=fun Q Q' h hQ=>by
 refine acallM mc_17 [.fz 0] [] [.t 0] Tryz.func51 fun M=>?_
 unfold F_17 at h
 unfold mc_17
 replace h:=tY h
 refine tB ?_
 repeat' (first
 | (exact tZ)
 | ((first|refine oblg h ?_|refine roomG h ?_|refine fork h ?_ ?_|refine forkS h ?_ ?_)<;>clear h<;>intro hc h)
 | (refine tE ?_;(first|rw [M.lok_compU]|rw [M.lokD_compU]);refine tB ?_)
 | (refine tA ?_)
 | fail)
def FR_h:Nat→Int→Option Str
 | 0,_=>none
 | n+1,n_ =>
 bif decide (n_<10) then some [(u8 (48+((u8 n_).toNat:Int)))] else chk (divs n_ 10) ((FR_h n (n_ / 10)).bind fun y2=>chk (divs n_ 10) (chk (strl (y2.length+[(u8 (48+((u8 (n_ % 10)).toNat:Int)))].length)) (some (y2++[(u8 (48+((u8 (n_ % 10)).toNat:Int)))]))))
noncomputable def F_h (n_:Int):Option Str:=lim fun n=>FR_h n n_
def mc_h:MC :=
 (sR [mo (.mv (.c (.str []))) 2]
 (.seq (sR [oV 0 3,
 mo (.bin false .lss (.t 3) (.c (.int .u64 10))) 4]
 (.cond (.t 4)
 (sR [oV 0 5,
 mo (.i2i false .u8 (.t 5)) 6,
 mo (.bin false .add (.c (.int .u8 48)) (.t 6)) 7,
 mo (.bslice 1 [(.t 7)]) 8,
 mo (.b2s (.t 8)) 9,
 oV 9 2]
 .ret)
 .skip))
 (.seq (.regD [oV 0 10,
 mo (.bin true .quo (.t 10) (.c (.int .u64 10))) 11,
 mo (.call (.f 52) [(.t 11)] [] []) 12,
 oV 0 13,
 mo (.bin true .rem (.t 13) (.c (.int .u64 10))) 14,
 mo (.i2i false .u8 (.t 14)) 15,
 mo (.bin false .add (.c (.int .u8 48)) (.t 15)) 16,
 mo (.bslice 1 [(.t 16)]) 17,
 mo (.b2s (.t 17)) 18,
 mo (.bin false .add (.t 12) (.t 18)) 19,
 oV 19 2]
 [[],[0],[1],[],[3],[4],[5],[6],[7],[2,8],[9,2,0,1,2,3,4,5,6,7,8,9]]
 [[],[0],[0,1],[],[3],[3,4],[3,4,5],[3,4,5,6],[3,4,5,6,7],[0,1,2,3,4,5,6,7,8],[0,1,2,3,4,5,6,7,8,9]])
 .ret)))
theorem Wq_h {n:Nat} (ih_ref21_decimal:∀{n_:Int} {y:Str},FR_h n n_=some y→ACall Tryz.prog 52 [.int .u64 n_] [] (fun r H=>r=.str y∧H=[])) (n_:Int) {Q:Str→Prop} {Q':V→Heap→Prop} (h:Ok (FR_h (n+1) n_) Q) (hQ:∀z,Q z→Q' (.str z) []):ACall Tryz.prog 52 [.int .u64 n_] [] Q':=by
 refine acallM mc_h [] [] [.t 2] Tryz.func52 fun M=>?_
 simp only [FR_h] at h
 unfold mc_h
 replace h:=tY h
 refine tB ?_
 repeat' (first
 | (exact tZ)
 | ((first|refine oblg h ?_|refine roomG h ?_|refine divG h ?_|refine fork h ?_ ?_|refine forkS h ?_ ?_)<;>clear h<;>intro hc h)
 | (obtain ⟨y,hy,h⟩:=h;have hw:=ih_ref21_decimal hy;replace hw:=tY hw;(first|refine M.sC hw ?_|refine M.sD hw ?_);clear hw hy;refine tB ?_)
 | (refine tE ?_;(first|rw [M.lok_compU]|rw [M.lokD_compU]);refine tB ?_)
 | (refine tA ?_)
 | fail)
theorem WG_h:∀n,(∀{n_:Int} {y:Str},FR_h n n_=some y→ACall Tryz.prog 52 [.int .u64 n_] [] (fun r H=>r=.str y∧H=[]))
 | 0=>fun hy=>(by simp only [FR_h] at hy;cases hy)
 | n+1=>by
  have ih_ref21_decimal:=@WG_h n
  exact fun hy=>Wq_h ih_ref21_decimal _ (Q:=(·=_)) ⟨_,hy,rfl⟩ fun|_,rfl=>⟨rfl,rfl⟩
theorem W_h:∀{n_:Int} {y:Str},F_h n_=some y→ACall Tryz.prog 52 [.int .u64 n_] [] (fun r H=>r=.str y∧H=[]):=fun hy=>by
 obtain ⟨n,hn⟩:=lim_inv hy
 exact (WG_h n) hn
noncomputable def FR_c:Nat→GTerm→Option Str
 | 0,_=>none
 | n+1,c_ =>
 F_17.bind fun y2=>chk (inb c_.Op y2.length) (jn (α:=Bool) (bif decide (c_.Op=1) then some true else bif decide (c_.Op=2) then some true else some (decide (c_.Op=3))) fun j11=>bif j11 then chk (strl ((y2.getD (c_.Op).toNat default).length+[32,34].length)) (chk (strl (((y2.getD (c_.Op).toNat default)++[32,34]).length+c_.Text.length)) (chk (strl ((((y2.getD (c_.Op).toNat default)++[32,34])++c_.Text).length+[34].length)) (some ((((y2.getD (c_.Op).toNat default)++[32,34])++c_.Text)++[34])))) else jn (α:=Bool) (bif decide (c_.Op=4) then some true else bif decide (c_.Op=5) then some true else bif decide (c_.Op=6) then some true else some (decide (c_.Op=8))) fun j12=>bif j12 then chk (strl ((y2.getD (c_.Op).toNat default).length+[32].length)) ((F_4 c_.Number).bind fun y14=>chk (strl (((y2.getD (c_.Op).toNat default)++[32]).length+y14.length)) (some (((y2.getD (c_.Op).toNat default)++[32])++y14))) else bif decide (c_.Op=7) then chk (strl ((y2.getD (c_.Op).toNat default).length+[32].length)) ((F_h c_.Print).bind fun y16=>chk (strl (((y2.getD (c_.Op).toNat default)++[32]).length+y16.length)) (some (((y2.getD (c_.Op).toNat default)++[32])++y16))) else bif decide (c_.Op=9) then chk (strl ((y2.getD (c_.Op).toNat default).length+[32,40].length)) (chk (inb 0 c_.Kids.length) ((FR_c n (c_.Kids.getD 0 default)).bind fun y18=>chk (strl (((y2.getD (c_.Op).toNat default)++[32,40]).length+y18.length)) (chk (strl ((((y2.getD (c_.Op).toNat default)++[32,40])++y18).length+[41].length)) (some ((((y2.getD (c_.Op).toNat default)++[32,40])++y18)++[41]))))) else (loop (fun (x45:Str×Int)=>(bif decide (x45.2<(c_.Kids.length:Int)) then jn (α:=Str) (bif decide (0<x45.2) then chk (strl ([32].length+(y2.getD (c_.Op).toNat default).length)) (chk (strl ((([32]:Str)++(y2.getD (c_.Op).toNat default)).length+[32].length)) (chk (strl (x45.1.length+((([32]:Str)++(y2.getD (c_.Op).toNat default))++[32]).length)) (some (x45.1++((([32]:Str)++(y2.getD (c_.Op).toNat default))++[32]))))) else some x45.1) fun j52=>chk (inb x45.2 c_.Kids.length) ((FR_c n (c_.Kids.getD (x45.2).toNat default)).bind fun y53=>chk (strl (j52.length+y53.length)) (chk (in64 (x45.2+1)) (some (.nx ((j52++y53),(x45.2+1)))))) else some (.ex x45.1):Option (Fl (Str×Int) Str))) ([40],0)).bind fun r54=>chk (strl (r54.length+[41].length)) (some (r54++[41])))
noncomputable def F_c (c_:GTerm):Option Str:=lim fun n=>FR_c n c_
@[irreducible] def mc_51:MC :=
 (.cond (.t 23)
 (sR [oV 3 28,
 mo (.bin false .add (.t 28) (.c (.str [32]))) 29,
 oF 2 1 30,
 oL 30 31,
 mo (.call (.f 30) [(.t 31)] [] []) 32,
 mo (.bin false .add (.t 29) (.t 32)) 33,
 oV 33 2]
 .ret)
 (sR [mo (.bin false .eql (.t 12) (cI 7)) 35,
 oV 35 34]
 (.cond (.t 34)
 (sR [oV 3 36,
 mo (.bin false .add (.t 36) (.c (.str [32]))) 37,
 oF 3 1 38,
 oL 38 39,
 mo (.call (.f 52) [(.t 39)] [] []) 40,
 mo (.bin false .add (.t 37) (.t 40)) 41,
 oV 41 2]
 .ret)
 (sR [mo (.bin false .eql (.t 12) (cI 9)) 43,
 oV 43 42]
 (.cond (.t 42)
 (sR [oV 3 44,
 mo (.bin false .add (.t 44) (.c (.str [32,40]))) 45,
 oF 4 1 46,
 oL 46 47,
 mo (.iad 5 (.t 47) (cI 0)) 48,
 mo (.ld (some 5) (.t 48)) 49,
 mo (.call (.f 29) [(.t 49)] [] []) 50,
 mo (.bin false .add (.t 45) (.t 50)) 51,
 mo (.bin false .add (.t 51) (.c (.str [41]))) 52,
 oV 52 2]
 .ret)
 .skip)))))
@[irreducible] def mc_52:MC :=
 (.cond (.t 13)
 (sR [oV 3 17,
 mo (.bin false .add (.t 17) (.c (.str [32,34]))) 18,
 oF 1 1 19,
 oL 19 20,
 mo (.bin false .add (.t 18) (.t 20)) 21,
 mo (.bin false .add (.t 21) (.c (.str [34]))) 22,
 oV 22 2]
 .ret)
 (.cut (sR [mo (.bin false .eql (.t 12) (cI 4)) 24,
 oV 24 23]
 (.cond (.t 23)
 .skip
 (sR [mo (.bin false .eql (.t 12) (cI 5)) 25,
 oV 25 23]
 (.cond (.t 23)
 .skip
 (sR [mo (.bin false .eql (.t 12) (cI 6)) 26,
 oV 26 23]
 (.cond (.t 23)
 .skip
 (.reg [mo (.bin false .eql (.t 12) (cI 8)) 27,
 oV 27 23])))))))
 mc_51))
@[irreducible] def mc_53:MC :=
 (.reg [oV 4 67,
 oF 4 1 68,
 oL 68 69,
 oV 5 70,
 mo (.iad 5 (.t 69) (.t 70)) 71,
 mo (.ld (some 5) (.t 71)) 72,
 mo (.call (.f 29) [(.t 72)] [] []) 73,
 mo (.bin false .add (.t 67) (.t 73)) 74,
 oV 74 4])
@[irreducible] def mc_54:MC :=
 (.seq (sR [oV 5 53,
 oF 4 1 54,
 oL 54 55,
 mo (.len false (.t 55)) 56,
 mo (.bin false .lss (.t 53) (.t 56)) 57]
 (.cond (.t 57)
 .skip
 (.exit 1)))
 (.seq (.block 2
 (.cut (sR [oV 5 60,
 mo (.bin false .gtr (.t 60) (cI 0)) 61]
 (.cond (.t 61)
 (.reg [oV 4 62,
 oV 3 63,
 mo (.bin false .add (.c (.str [32])) (.t 63)) 64,
 mo (.bin false .add (.t 64) (.c (.str [32]))) 65,
 mo (.bin false .add (.t 62) (.t 65)) 66,
 oV 66 4])
 .skip))
 mc_53))
 (.note (.gc [1,3,4,5]) (.reg [oV 5 58,
 mo (.bin true .add (.t 58) (cI 1)) 59,
 oV 59 5]))))
def mc_c:MC :=
 (sR [mo (.box (.t 0)) 1,
 mo (.mv (.c (.str []))) 2]
 (.seq (.regD [mo (.call (.f 51) [] [] []) 6,
 oF 0 1 7,
 oL 7 8,
 mo (.iad 1 (.t 6) (.t 8)) 9,
 oL 9 10,
 oV 10 3]
 [[],[],[1],[0,2],[3],[4,0,0,1,2,3,4]]
 [[],[],[1],[0,1,2],[0,1,2,3],[0,1,2,3,4]])
 (.seq (sR [oF 0 1 11,
 oL 11 12]
 (.block 0
 (.cut (sR [mo (.bin false .eql (.t 12) (cI 1)) 14,
 oV 14 13]
 (.cond (.t 13)
 .skip
 (sR [mo (.bin false .eql (.t 12) (cI 2)) 15,
 oV 15 13]
 (.cond (.t 13)
 .skip
 (.reg [mo (.bin false .eql (.t 12) (cI 3)) 16,
 oV 16 13])))))
 mc_52)))
 (sR [mo (.mv (.c (.str [40]))) 4]
 (.seq (sR [oC 0 5]
 (.block 1
 (.loop mc_54)))
 (sR [oV 4 75,
 mo (.bin false .add (.t 75) (.c (.str [41]))) 76,
 oV 76 2]
 .ret))))))
theorem Wq_c {n:Nat} (ih_ref21_write:∀{c_:GTerm} {y:Str},FR_c n c_=some y→ACall Tryz.prog 29 [GTerm.v c_] [] (fun r H=>r=.str y∧H=[])) (c_:GTerm) {Q:Str→Prop} {Q':V→Heap→Prop} (h:Ok (FR_c (n+1) c_) Q) (hQ:∀z,Q z→Q' (.str z) []):ACall Tryz.prog 29 [GTerm.v c_] [] Q':=by
 refine acallM mc_c [] [] [.t 2] Tryz.func29 fun M=>?_
 simp only [FR_c] at h
 unfold mc_c
 replace h:=tY h
 refine tB ?_
 repeat' (first
 | (exact tZ)
 | ((first|refine oblg h ?_|refine roomG h ?_|refine fork h ?_ ?_|refine forkS h ?_ ?_)<;>clear h<;>intro hc h)
 | (obtain ⟨y,hy,h⟩:=h;(first|with_reducible first|have hw:=Wq_17.w hy|have hw:=W_4 hy|have hw:=W_h hy|have hw:=ih_ref21_write hy);replace hw:=tY hw;(first|refine M.sC hw ?_|refine M.sD hw ?_);clear hw hy;refine tB ?_)
 | (refine M.jn1 (b:=mc_53) [1,3,5] [1] (fun y=>[(4,.str y)]) (fun y=>[]) [] h ?_ ?_<;>first
 | (clear h;intro Qn K hK1 h;replace h:=tY h;refine tB ?_)
  |(clear h;intro y h;unfold mc_53;replace h:=tY h;refine tB ?_))
 | (refine M.wh1 (b:=mc_54) [1,3] [1] (fun x=>[(4,.str x.1),(5,.int .i64 x.2)]) (fun x=>[]) [] h ?_ ?_<;>first
 | (clear h;intro x Qn K hK2 h;unfold mc_54;replace h:=tY h;refine tB ?_)
  |(clear h;(try refine tB ?_);exact tU0;done))
 | (refine M.jn1 (b:=mc_51) [1,3,12] [1] (fun y=>[(23,.bool y)]) (fun y=>[]) [] h ?_ ?_<;>first
 | (clear h;intro Qn K hK3 h;replace h:=tY h;refine tB ?_)
  |(clear h;intro y h;unfold mc_51;replace h:=tY h;refine tB ?_))
 | (refine M.jn1 (b:=mc_52) [1,3,12] [1] (fun y=>[(13,.bool y)]) (fun y=>[]) [] h ?_ ?_<;>first
 | (clear h;intro Qn K hK4 h;replace h:=tY h;refine tB ?_)
  |(clear h;intro y h;unfold mc_52;replace h:=tY h;refine tB ?_))
 | ((first|refine hK1 _ ?_|refine hK2 _ ?_|refine hK3 _ ?_|refine hK4 _ ?_);(try refine tB ?_);refine ⟨_,h,?_⟩;exact tU0;done)
 | (refine tE ?_;(first|rw [M.lok_compU]|rw [M.lokD_compU]);refine tB ?_)
 | (refine tA ?_)
 | fail)
theorem WG_c:∀n,(∀{c_:GTerm} {y:Str},FR_c n c_=some y→ACall Tryz.prog 29 [GTerm.v c_] [] (fun r H=>r=.str y∧H=[]))
 | 0=>fun hy=>(by simp only [FR_c] at hy;cases hy)
 | n+1=>by
  have ih_ref21_write:=@WG_c n
  exact fun hy=>Wq_c ih_ref21_write _ (Q:=(·=_)) ⟨_,hy,rfl⟩ fun|_,rfl=>⟨rfl,rfl⟩
theorem W_c:∀{c_:GTerm} {y:Str},F_c c_=some y→ACall Tryz.prog 29 [GTerm.v c_] [] (fun r H=>r=.str y∧H=[]):=fun hy=>by
 obtain ⟨n,hn⟩:=lim_inv hy
 exact (WG_c n) hn
noncomputable def F_2n (l_:List GRule) (x31:Str×Int):Option (Fl (Str×Int) Str) :=
 bif decide (x31.2<(l_.length:Int)) then jn (α:=Str) (chk (inb x31.2 l_.length) (bif decide ((l_.getD (x31.2).toNat default).Verdict=2) then some [102,97,108,115,101] else some [114,101,97,108])) fun j38=>chk (inb x31.2 l_.length) (chk (strl (((l_.getD (x31.2).toNat default).Name).length+[58,32].length)) (chk (strl (((l_.getD (x31.2).toNat default).Name++[58,32]).length+j38.length)) (chk (strl ((((l_.getD (x31.2).toNat default).Name++[58,32])++j38).length+[32,105,102,32].length)) (chk (inb x31.2 l_.length) ((F_c ((l_.getD (x31.2).toNat default).When)).bind fun y39=>chk (strl (((((l_.getD (x31.2).toNat default).Name++[58,32])++j38)++[32,105,102,32]).length+y39.length)) (chk (strl ((((((l_.getD (x31.2).toNat default).Name++[58,32])++j38)++[32,105,102,32])++y39).length+[10].length)) (chk (strl (x31.1.length+((((((l_.getD (x31.2).toNat default).Name++[58,32])++j38)++[32,105,102,32])++y39)++[10]).length)) (chk (in64 (x31.2+1)) (some (.nx ((x31.1++((((((l_.getD (x31.2).toNat default).Name++[58,32])++j38)++[32,105,102,32])++y39)++[10])),(x31.2+1)))))))))))) else some (.ex x31.1)
noncomputable def F_10 (l_:List GRule):Option (Str×Int) :=
 (F_1z l_).bind fun y4=>bif (!decide (y4=0)) then some ([],y4) else (loop (F_2n l_) ([],0)).bind fun r40=>some (r40,0)
@[irreducible] def mc_55:MC :=
 (.regD [oV 5 25,
 oV 0 26,
 oV 6 27,
 mo (.iad 7 (.t 26) (.t 27)) 28,
 oF 0 28 29,
 oL 29 30,
 mo (.bin false .add (.t 30) (.c (.str [58,32]))) 31,
 oV 7 32,
 mo (.bin false .add (.t 31) (.t 32)) 33,
 mo (.bin false .add (.t 33) (.c (.str [32,105,102,32]))) 34,
 oV 0 35,
 oV 6 36,
 mo (.iad 7 (.t 35) (.t 36)) 37,
 oF 1 37 38,
 mo (.ld (some 5) (.t 38)) 39,
 mo (.call (.f 29) [(.t 39)] [] []) 40,
 mo (.bin false .add (.t 34) (.t 40)) 41,
 mo (.bin false .add (.t 41) (.c (.str [10]))) 42,
 mo (.bin false .add (.t 25) (.t 42)) 43,
 oV 43 5]
 [[],[],[],[1,2],[3],[4],[5],[],[6,7],[8],[],[],[10,11],[12],[13],[14],[9,15],[16],[0,17],[18,15,0,1,2,3,4,5,6,7,8,9,10,11,12,13,14,15,16,17,18]]
 [[],[],[],[1,2],[1,2,3],[1,2,3,4],[1,2,3,4,5],[],[1,2,3,4,5,6,7],[1,2,3,4,5,6,7,8],[],[],[10,11],[10,11,12],[10,11,12,13],[10,11,12,13,14],[1,2,3,4,5,6,7,8,9,10,11,12,13,14,15],[1,2,3,4,5,6,7,8,9,10,11,12,13,14,15,16],[0,1,2,3,4,5,6,7,8,9,10,11,12,13,14,15,16,17],[0,1,2,3,4,5,6,7,8,9,10,11,12,13,14,15,16,17,18]])
@[irreducible] def mc_2n:MC :=
 (.seq (sR [oV 6 13,
 oV 0 14,
 mo (.len false (.t 14)) 15,
 mo (.bin false .lss (.t 13) (.t 15)) 16]
 (.cond (.t 16)
 .skip
 (.exit 0)))
 (.seq (.block 1
 (sR [mo (.mv (.c (.str [114,101,97,108]))) 7]
 (.cut (sR [oV 0 19,
 oV 6 20,
 mo (.iad 7 (.t 19) (.t 20)) 21,
 oF 6 21 22,
 oL 22 23,
 mo (.bin false .eql (.t 23) (cI 2)) 24]
 (.cond (.t 24)
 (.reg [mo (.mv (.c (.str [102,97,108,115,101]))) 7])
 .skip))
 mc_55)))
 (.note (.gc [0,5,6]) (.reg [oV 6 17,
 mo (.bin true .add (.t 17) (cI 1)) 18,
 oV 18 6]))))
def mc_10:MC :=
 (sR [mo (.mv (.c (.str []))) 2,
 oC 0 3]
 (.seq (sR [oV 0 8,
 mo (.call (.f 28) [(.t 8)] [] []) 9,
 oV 9 4]
 (sR [oV 4 10,
 mo (.bin false .neq (.t 10) (cI 0)) 11]
 (.cond (.t 11)
 (sR [oV 4 12,
 mo (.mv (.c (.str []))) 2,
 oV 12 3]
 .ret)
 .skip)))
 (sR [mo (.mv (.c (.str []))) 5]
 (.seq (sR [oC 0 6]
 (.block 0
 (.loop mc_2n)))
 (sR [oV 5 44,
 oV 44 2,
 oC 0 3]
 .ret)))))
theorem Wq_10 {l_:List GRule}:Cn Tryz.prog 9 [.sl (l_.map GRule.v)] [] (F_10 l_) (fun z=>.tup [.str z.1,.int .i64 z.2]) (fun z=>[]):=fun Q Q' h hQ=>by
 refine acallM mc_10 [] [] [.t 2,.t 3] Tryz.func9 fun M=>?_
 unfold F_10 at h
 unfold mc_10
 replace h:=tY h
 refine tB ?_
 repeat' (first
 | (exact tZ)
 | ((first|refine oblg h ?_|refine roomG h ?_|refine fork h ?_ ?_|refine forkS h ?_ ?_)<;>clear h<;>intro hc h)
 | (obtain ⟨y,hy,h⟩:=h;(first|with_reducible first|have hw:=Wq_1z.w hy|have hw:=W_c hy);replace hw:=tY hw;(first|refine M.sC hw ?_|refine M.sD hw ?_);clear hw hy;refine tB ?_)
 | (refine M.jn1 (b:=mc_55) [0,5,6] [] (fun y=>[(7,.str y)]) (fun y=>[]) [] h ?_ ?_<;>first
 | (clear h;intro Qn K hK1 h;replace h:=tY h;refine tB ?_)
  |(clear h;intro y h;unfold mc_55;replace h:=tY h;refine tB ?_))
 | (refine M.wh1 (b:=mc_2n) [0] [] (fun x=>[(5,.str x.1),(6,.int .i64 x.2)]) (fun x=>[]) [] h ?_ ?_<;>first
 | (clear h;intro x Qn K hK2 h;unfold F_2n at h;unfold mc_2n;replace h:=tY h;refine tB ?_)
  |(clear h;(try refine tB ?_);exact tU0;done))
 | ((first|refine hK1 _ ?_|refine hK2 _ ?_);(try refine tB ?_);refine ⟨_,h,?_⟩;exact tU0;done)
 | (refine tE ?_;(first|rw [M.lok_compU]|rw [M.lokD_compU]);refine tB ?_)
 | (refine tA ?_)
 | fail)
noncomputable def FR_i:Nat→GTerm→GTerm→Option Bool
 | 0,_,_=>none
 | n+1,a_,b_ =>
 grp (((!decide (a_.Op=b_.Op))||(!decide (a_.Text=b_.Text)))) fun b13=>grp ((b13||(!decide (a_.Number=b_.Number)))) fun b14=>grp ((b14||(!decide (a_.Print=b_.Print)))) fun b15=>grp ((b15||(!decide ((a_.Kids.length:Int)=(b_.Kids.length:Int))))) fun b16=>bif b16 then some false else (loop (fun (x45:Int)=>(bif decide (x45<(a_.Kids.length:Int)) then chk (inb x45 a_.Kids.length) (chk (inb x45 b_.Kids.length) ((FR_i n (a_.Kids.getD (x45).toNat default) (b_.Kids.getD (x45).toNat default)).bind fun y53=>bif (!y53) then some (.ex (.inr false)) else chk (in64 (x45+1)) (some (.nx (x45+1))))) else some (.ex (.inl ())):Option (Fl Int (Sum Unit Bool)))) 0).bind fun r54=>Sum.elim (fun u55=>some true) (fun u56=>some u56) r54
noncomputable def F_i (a_:GTerm) (b_:GTerm):Option Bool:=lim fun n=>FR_i n a_ b_
@[irreducible] def mg_56:List MOp:=[gF 11 12 (.fad 1 (.t 2)),
 gF 11 13 (.ld none (.t 12)),
 gF 11 14 (.fad 1 (.t 3)),
 gF 11 15 (.ld none (.t 14)),
 gF 11 16 (.bin false .neq (.t 13) (.t 15)),
 mo (.pick (.t 11) (.c (.bool true)) (.t 16)) 17]
@[irreducible] def mg_57:List MOp:=[gF 18 19 (.fad 2 (.t 2)),
 gF 18 20 (.ld none (.t 19)),
 gF 18 21 (.fad 2 (.t 3)),
 gF 18 22 (.ld none (.t 21)),
 gF 18 23 (.bin false .neq (.t 20) (.t 22)),
 mo (.pick (.t 18) (.c (.bool true)) (.t 23)) 24]
@[irreducible] def mg_58:List MOp:=[gF 25 26 (.fad 3 (.t 2)),
 gF 25 27 (.ld none (.t 26)),
 gF 25 28 (.fad 3 (.t 3)),
 gF 25 29 (.ld none (.t 28)),
 gF 25 30 (.bin false .neq (.t 27) (.t 29)),
 mo (.pick (.t 25) (.c (.bool true)) (.t 30)) 31]
@[irreducible] def mg_59:List MOp:=[gF 32 33 (.fad 4 (.t 2)),
 gF 32 34 (.ld none (.t 33)),
 gF 32 35 (.len false (.t 34)),
 gF 32 36 (.fad 4 (.t 3)),
 gF 32 37 (.ld none (.t 36)),
 gF 32 38 (.len false (.t 37)),
 gF 32 39 (.bin false .neq (.t 35) (.t 38)),
 mo (.pick (.t 32) (.c (.bool true)) (.t 39)) 40]
@[irreducible] def mc_5a:MC :=
 (.seq (sR [oV 5 41,
 oF 4 2 42,
 oL 42 43,
 mo (.len false (.t 43)) 44,
 mo (.bin false .lss (.t 41) (.t 44)) 45]
 (.cond (.t 45)
 .skip
 (.exit 0)))
 (.seq (.block 1
 (.seq (.regD [oF 4 2 48,
 oL 48 49,
 oV 5 50,
 mo (.iad 5 (.t 49) (.t 50)) 51,
 mo (.ld (some 5) (.t 51)) 52,
 oF 4 3 53,
 oL 53 54,
 oV 5 55,
 mo (.iad 5 (.t 54) (.t 55)) 56,
 mo (.ld (some 5) (.t 56)) 57,
 mo (.call (.f 37) [(.t 52),(.t 57)] [] []) 58,
 mo (.not (.t 58)) 59]
 [[],[0],[],[1,2],[3],[],[5],[],[6,7],[8],[4,9],[10]]
 [[],[0],[],[0,1,2],[0,1,2,3],[],[5],[],[5,6,7],[5,6,7,8],[0,1,2,3,4,5,6,7,8,9],[0,1,2,3,4,5,6,7,8,9,10]])
 (.cond (.t 59)
 (sR [mo (.mv (.c (.bool false))) 4]
 .ret)
 .skip)))
 (.note (.gc [2,3,5]) (.reg [oV 5 46,
 mo (.bin true .add (.t 46) (cI 1)) 47,
 oV 47 5]))))
def mc_i:MC :=
 (sR [mo (.box (.t 0)) 2,
 mo (.box (.t 1)) 3,
 mo (.mv (.c (.bool false))) 4]
 (.seq (.seq (.regI [.op (oF 0 2 6),
 .op (oL 6 7),
 .op (oF 0 3 8),
 .op (oL 8 9),
 .op (mo (.bin false .neq (.t 7) (.t 9)) 10),
 .op (oV 10 11),
 .grp mg_56,
 .op (oV 17 18),
 .grp mg_57,
 .op (oV 24 25),
 .grp mg_58,
 .op (oV 31 32),
 .grp mg_59])
 (.cond (.t 40)
 (sR [mo (.mv (.c (.bool false))) 4]
 .ret)
 .skip))
 (.seq (sR [oC 0 5]
 (.block 0
 (.loop mc_5a)))
 (sR [mo (.mv (.c (.bool true))) 4]
 .ret))))
theorem Wq_i {n:Nat} (ih_ref21_SameTerm:∀{a_:GTerm} {b_:GTerm} {y:Bool},FR_i n a_ b_=some y→ACall Tryz.prog 37 [GTerm.v a_,GTerm.v b_] [] (fun r H=>r=.bool y∧H=[])) (a_:GTerm) (b_:GTerm) {Q:Bool→Prop} {Q':V→Heap→Prop} (h:Ok (FR_i (n+1) a_ b_) Q) (hQ:∀z,Q z→Q' (.bool z) []):ACall Tryz.prog 37 [GTerm.v a_,GTerm.v b_] [] Q':=by
 refine acallM mc_i [] [] [.t 4] Tryz.func37 fun M=>?_
 simp only [FR_i] at h
 unfold mc_i
 replace h:=tY h
 refine tB ?_
 repeat' (first
 | (exact tZ)
 | ((first|refine oblg h ?_|refine roomG h ?_|refine fork h ?_ ?_|refine forkS h ?_ ?_)<;>clear h<;>intro hc h)
 | (obtain ⟨y,hy,h⟩:=h;have hw:=ih_ref21_SameTerm hy;replace hw:=tY hw;(first|refine M.sC hw ?_|refine M.sD hw ?_);clear hw hy;refine tB ?_)
 | (refine M.wh1 (b:=mc_5a) [2,3] [3,2] (fun x=>[(5,.int .i64 x)]) (fun x=>[]) [] h ?_ ?_<;>first
 | (clear h;intro x Qn K hK1 h;unfold mc_5a;replace h:=tY h;refine tB ?_)
  |(clear h;(try refine tB ?_);exact tU0;done))
 | (refine M.gv1 (ms:=mg_59) 40 [33,34,35,36,37,38,39] h ?_ ?_<;>first
 | (clear h;intro K hK2;unfold mg_59;refine tB ?_)
 | (clear h;intro b h;replace h:=tY h;refine tB ?_))
 | (refine M.gv1 (ms:=mg_58) 31 [26,27,28,29,30] h ?_ ?_<;>first
 | (clear h;intro K hK3;unfold mg_58;refine tB ?_)
 | (clear h;intro b h;replace h:=tY h;refine tB ?_))
 | (refine M.gv1 (ms:=mg_57) 24 [19,20,21,22,23] h ?_ ?_<;>first
 | (clear h;intro K hK4;unfold mg_57;refine tB ?_)
 | (clear h;intro b h;replace h:=tY h;refine tB ?_))
 | (refine M.gv1 (ms:=mg_56) 17 [12,13,14,15,16] h ?_ ?_<;>first
 | (clear h;intro K hK5;unfold mg_56;refine tB ?_)
 | (clear h;intro b h;replace h:=tY h;refine tB ?_))
 | (refine hK1 _ ?_;(try refine tB ?_);refine ⟨_,h,?_⟩;exact tU0;done)
 | ((first|refine hK2 _ ?_|refine hK3 _ ?_|refine hK4 _ ?_|refine hK5 _ ?_);exact tU;done)
 | (refine bfork (fun hc=>?_) (fun hc=>?_))
 | (refine tE ?_;(first|rw [M.lok_compU]|rw [M.lokD_compU]);refine tB ?_)
 | (refine tA ?_)
 | fail)
theorem WG_i:∀n,(∀{a_:GTerm} {b_:GTerm} {y:Bool},FR_i n a_ b_=some y→ACall Tryz.prog 37 [GTerm.v a_,GTerm.v b_] [] (fun r H=>r=.bool y∧H=[]))
 | 0=>fun hy=>(by simp only [FR_i] at hy;cases hy)
 | n+1=>by
  have ih_ref21_SameTerm:=@WG_i n
  exact fun hy=>Wq_i ih_ref21_SameTerm _ _ (Q:=(·=_)) ⟨_,hy,rfl⟩ fun|_,rfl=>⟨rfl,rfl⟩
theorem W_i:∀{a_:GTerm} {b_:GTerm} {y:Bool},F_i a_ b_=some y→ACall Tryz.prog 37 [GTerm.v a_,GTerm.v b_] [] (fun r H=>r=.bool y∧H=[]):=fun hy=>by
 obtain ⟨n,hn⟩:=lim_inv hy
 exact (WG_i n) hn
noncomputable def F_2o (a_:List GRule) (b_:List GRule) (x29:Int):Option (Fl Int (Sum Unit Bool)) :=
 bif decide (x29<(a_.length:Int)) then chk (inb x29 a_.length) (chk (inb x29 b_.length) (bif (!decide ((a_.getD (x29).toNat default).Name=(b_.getD (x29).toNat default).Name)) then some (.ex (.inr false)) else chk (inb x29 a_.length) (chk (inb x29 b_.length) (bif (!decide ((a_.getD (x29).toNat default).Verdict=(b_.getD (x29).toNat default).Verdict)) then some (.ex (.inr false)) else chk (inb x29 a_.length) (chk (inb x29 b_.length) ((F_i ((a_.getD (x29).toNat default).When) ((b_.getD (x29).toNat default).When)).bind fun y37=>bif (!y37) then some (.ex (.inr false)) else chk (in64 (x29+1)) (some (.nx (x29+1))))))))) else some (.ex (.inl ()))
noncomputable def F_20 (a_:List GRule) (b_:List GRule):Option Bool :=
 bif (!decide ((a_.length:Int)=(b_.length:Int))) then some false else (loop (F_2o a_ b_) 0).bind fun r38=>Sum.elim (fun u39=>some true) (fun u40=>some u40) r38
@[irreducible] def mc_2o:MC :=
 (.seq (sR [oV 5 11,
 oV 0 12,
 mo (.len false (.t 12)) 13,
 mo (.bin false .lss (.t 11) (.t 13)) 14]
 (.cond (.t 14)
 .skip
 (.exit 0)))
 (.seq (.block 1
 (.seq (.regD [oV 0 17,
 oV 5 18,
 mo (.iad 7 (.t 17) (.t 18)) 19,
 oF 0 19 20,
 oL 20 21,
 oV 1 22,
 oV 5 23,
 mo (.iad 7 (.t 22) (.t 23)) 24,
 oF 0 24 25,
 oL 25 26,
 mo (.bin false .neq (.t 21) (.t 26)) 27,
 oV 27 28,
 gF 28 29 (.mv (.t 0)),
 gF 28 30 (.mv (.t 5)),
 gF 28 31 (.iad 7 (.t 29) (.t 30)),
 gF 28 32 (.fad 6 (.t 31)),
 gF 28 33 (.ld none (.t 32)),
 gF 28 34 (.mv (.t 1)),
 gF 28 35 (.mv (.t 5)),
 gF 28 36 (.iad 7 (.t 34) (.t 35)),
 gF 28 37 (.fad 6 (.t 36)),
 gF 28 38 (.ld none (.t 37)),
 gF 28 39 (.bin false .neq (.t 33) (.t 38)),
 mo (.pick (.t 28) (.c (.bool true)) (.t 39)) 40,
 oV 40 41,
 gF 41 42 (.mv (.t 0)),
 gF 41 43 (.mv (.t 5)),
 gF 41 44 (.iad 7 (.t 42) (.t 43)),
 gF 41 45 (.fad 1 (.t 44)),
 gF 41 46 (.ld (some 5) (.t 45)),
 gF 41 47 (.mv (.t 1)),
 gF 41 48 (.mv (.t 5)),
 gF 41 49 (.iad 7 (.t 47) (.t 48)),
 gF 41 50 (.fad 1 (.t 49)),
 gF 41 51 (.ld (some 5) (.t 50)),
 gF 41 52 (.call (.f 37) [(.t 46),(.t 51)] [] []),
 gF 41 53 (.not (.t 52)),
 mo (.pick (.t 41) (.c (.bool true)) (.t 53)) 54]
 [[],[],[0,1],[2],[3],[],[],[5,6],[7],[8],[4,9],[10],[11],[11],[12,13,11],[14,11],[15,11],[11],[11],[17,18,11],[19,11],[20,11],[16,21,11],[11,22],[23,11],[24],[24],[25,26,24],[27,24],[28,24],[24],[24],[30,31,24],[32,24],[33,24],[29,34,24,24],[35,24],[24,36]]
 [[],[],[0,1],[0,1,2],[0,1,2,3],[],[],[5,6],[5,6,7],[5,6,7,8],[0,1,2,3,4,5,6,7,8,9],[0,1,2,3,4,5,6,7,8,9,10],[0,1,2,3,4,5,6,7,8,9,10,11],[0,1,2,3,4,5,6,7,8,9,10,11],[0,1,2,3,4,5,6,7,8,9,10,11,12,13],[0,1,2,3,4,5,6,7,8,9,10,11,12,13,14],[0,1,2,3,4,5,6,7,8,9,10,11,12,13,14,15],[0,1,2,3,4,5,6,7,8,9,10,11],[0,1,2,3,4,5,6,7,8,9,10,11],[0,1,2,3,4,5,6,7,8,9,10,11,17,18],[0,1,2,3,4,5,6,7,8,9,10,11,17,18,19],[0,1,2,3,4,5,6,7,8,9,10,11,17,18,19,20],[0,1,2,3,4,5,6,7,8,9,10,11,12,13,14,15,16,17,18,19,20,21],[0,1,2,3,4,5,6,7,8,9,10,11,12,13,14,15,16,17,18,19,20,21,22],[0,1,2,3,4,5,6,7,8,9,10,11,12,13,14,15,16,17,18,19,20,21,22,23],[0,1,2,3,4,5,6,7,8,9,10,11,12,13,14,15,16,17,18,19,20,21,22,23,24],[0,1,2,3,4,5,6,7,8,9,10,11,12,13,14,15,16,17,18,19,20,21,22,23,24],[0,1,2,3,4,5,6,7,8,9,10,11,12,13,14,15,16,17,18,19,20,21,22,23,24,25,26],[0,1,2,3,4,5,6,7,8,9,10,11,12,13,14,15,16,17,18,19,20,21,22,23,24,25,26,27],[0,1,2,3,4,5,6,7,8,9,10,11,12,13,14,15,16,17,18,19,20,21,22,23,24,25,26,27,28],[0,1,2,3,4,5,6,7,8,9,10,11,12,13,14,15,16,17,18,19,20,21,22,23,24],[0,1,2,3,4,5,6,7,8,9,10,11,12,13,14,15,16,17,18,19,20,21,22,23,24],[0,1,2,3,4,5,6,7,8,9,10,11,12,13,14,15,16,17,18,19,20,21,22,23,24,30,31],[0,1,2,3,4,5,6,7,8,9,10,11,12,13,14,15,16,17,18,19,20,21,22,23,24,30,31,32],[0,1,2,3,4,5,6,7,8,9,10,11,12,13,14,15,16,17,18,19,20,21,22,23,24,30,31,32,33],[0,1,2,3,4,5,6,7,8,9,10,11,12,13,14,15,16,17,18,19,20,21,22,23,24,25,26,27,28,29,30,31,32,33,34],[0,1,2,3,4,5,6,7,8,9,10,11,12,13,14,15,16,17,18,19,20,21,22,23,24,25,26,27,28,29,30,31,32,33,34,35],[0,1,2,3,4,5,6,7,8,9,10,11,12,13,14,15,16,17,18,19,20,21,22,23,24,25,26,27,28,29,30,31,32,33,34,35,36]])
 (.cond (.t 54)
 (sR [mo (.mv (.c (.bool false))) 4]
 .ret)
 .skip)))
 (.note (.gc [0,1,5,29,30,31,32,33,34,35,36,37,38,39,42,43,44,45,46,47,48,49,50,51,52,53]) (.reg [oV 5 15,
 mo (.bin true .add (.t 15) (cI 1)) 16,
 oV 16 5]))))
def mc_20:MC :=
 (sR [mo (.mv (.c (.bool false))) 4]
 (.seq (sR [oV 0 6,
 mo (.len false (.t 6)) 7,
 oV 1 8,
 mo (.len false (.t 8)) 9,
 mo (.bin false .neq (.t 7) (.t 9)) 10]
 (.cond (.t 10)
 (sR [mo (.mv (.c (.bool false))) 4]
 .ret)
 .skip))
 (.seq (sR [oC 0 5]
 (.block 0
 (.loop mc_2o)))
 (sR [mo (.mv (.c (.bool true))) 4]
 .ret))))
theorem Wq_20 {a_ b_:List GRule}:Cn Tryz.prog 14 [.sl (a_.map GRule.v),.sl (b_.map GRule.v)] [] (F_20 a_ b_) (fun z=>.bool z) (fun z=>[]):=fun Q Q' h hQ=>by
 refine acallM mc_20 [] [] [.t 4] Tryz.func14 fun M=>?_
 unfold F_20 at h
 unfold mc_20
 replace h:=tY h
 refine tB ?_
 repeat' (first
 | (exact tZ)
 | ((first|refine oblg h ?_|refine roomG h ?_|refine fork h ?_ ?_|refine forkS h ?_ ?_)<;>clear h<;>intro hc h)
 | (obtain ⟨y,hy,h⟩:=h;have hw:=W_i hy;replace hw:=tY hw;(first|refine M.sC hw ?_|refine M.sD hw ?_);clear hw hy;refine tB ?_)
 | (refine M.wh1 (b:=mc_2o) [0,1] [] (fun x=>[(5,.int .i64 x)]) (fun x=>[]) [] h ?_ ?_<;>first
 | (clear h;intro x Qn K hK1 h;unfold F_2o at h;unfold mc_2o;replace h:=tY h;refine tB ?_)
  |(clear h;(try refine tB ?_);exact tU0;done))
 | (refine hK1 _ ?_;(try refine tB ?_);refine ⟨_,h,?_⟩;exact tU0;done)
 | (refine tE ?_;(first|rw [M.lok_compU]|rw [M.lokD_compU]);refine tB ?_)
 | (refine tA ?_)
 | fail)
mutual
def FR_69:Nat→(List GTerm)→(List GTerm)→Option Bool
 | 0,_,_=>none
 | n+1,s1_,s2_ =>
 bif (!decide ((s1_.length:Int)=(s2_.length:Int))) then some false else (forL (fun (k31:Int) (a32:GTerm) (x30:Unit)=>(chk (inb k31 s2_.length) ((FR_6a n a32 (s2_.getD (k31).toNat default)).bind fun y40=>bif (!y40) then some (.ex false) else some (.nx ())):Option (Fl Unit Bool))) s1_ 0 ()).bind fun o=>o.elim (fun x41=>some true) (fun r42=>some r42)
def FR_6a:Nat→GTerm→GTerm→Option Bool
 | 0,_,_=>none
 | n+1,a_,b_ =>
 grp ((decide (a_.Op=b_.Op)&&decide (a_.Text=b_.Text))) fun b6=>grp ((b6&&decide (a_.Number=b_.Number))) fun b7=>grp ((b7&&decide (a_.Print=b_.Print))) fun b8=>jn (α:=Bool) (bif b8 then (FR_69 n a_.Kids b_.Kids).bind fun y10=>some y10 else some false) fun j11=>some j11
end
end Go.Ab
