/- What the functions of this seat that lie on the laws' road compute (part LD), each for every input. By AI agents. -/
import Derived.Test.YtoojdaakeiadjaaGreatDoorProg
import Derived.KernelRfl
import Derived.Test.YtoojdaakeiadjaaGreatDoorAbFun
import Derived.Test.YtoojdaakeiadjaaGreatDoorLV
set_option linter.all false
set_option maxRecDepth 20000
set_option maxHeartbeats 2000000
namespace Go.Ab
open Go.Proofs
noncomputable section
attribute [go_sem] List.forall_mem_append
def c98 (c_:UInt8):Option o7 :=
 some (o7.mk 1 [(o9.mk c_ c_)] [] 0 0)
instance g4q {c_:UInt8}:WJ (c98 c_) 68 [a0a c_] fun z=>o7.v z:=wX Tryz.func68 [] [] [.fzc 2] (h:=fun _ _ h hQ M=>by unfold c98 at h;exact tX)
def d4s (l_:List o9) (min_:Int) (max_:Int):Option o7 :=
 some (o7.mk 4 [] [(o7.mk 1 l_ [] 0 0)] min_ max_)
instance g4c {l_:List o9} {min_ max_:Int}:WJ (d4s l_ min_ max_) 69 [.sl (l_.map o9.v),.int .i64 min_,.int .i64 max_] fun z=>o7.v z:=wX Tryz.func69 [] [] [.fzc 6] (h:=fun _ _ h hQ M=>by unfold d4s at h;exact tX)
def e2m (l_:List o7):Option o7 :=
 some (o7.mk 2 [] l_ 0 0)
instance g3w {l_:List o7}:WJ (e2m l_) 67 [.sl (l_.map o7.v)] fun z=>o7.v z:=wX Tryz.func67 [] [] [.fzc 2] (h:=fun _ _ h hQ M=>by unfold e2m at h;exact tX)
def f0s:Option (List o7) :=
 (c98 116).bind fun y20=>(c98 107).bind fun y21=>(d4s [(o9.mk 48 57)] 2 4).bind fun y22=>(e2m [y20,y21,y22]).bind fun y23=>(c98 107).bind fun y24=>(c98 45).bind fun y25=>(d4s [(o9.mk 48 57),(o9.mk 97 102)] 3 6).bind fun y26=>(e2m [y24,y25,y26]).bind fun y27=>(d4s [(o9.mk 48 57)] 4 4).bind fun y28=>(d4s [(o9.mk 65 90),(o9.mk 97 122)] 2 5).bind fun y29=>(c98 107).bind fun y30=>(c98 107).bind fun y31=>(c98 101).bind fun y32=>(e2m [y31,y32]).bind fun y33=>(d4s [(o9.mk 48 57)] 2 2).bind fun y34=>(c98 97).bind fun y35=>(d4s [(o9.mk 48 57),(o9.mk 97 102)] 0 3).bind fun y36=>(c98 98).bind fun y37=>(e2m [y35,y36,y37]).bind fun y38=>some [y23,y27,y28,y29,(o7.mk 3 [] [y30,y33,y34] 0 0),y38]
instance g3h:WJ f0s 38 [] fun z=>.sl (z.map o7.v):=wX Tryz.func38 [(2,⟨[.gc [1,2,3]],[.k 4 2,.k 10 2,.k 19 2,.k 23 2,.k 29 2],[.n 3 (.fz 14),.n 9 (.fz 20),.n 15 (.fz 26)]⟩)] [] [.fz 0] (h:=fun _ _ h hQ M=>by unfold f0s at h;exact tX)
@[go_sem] def f7h (y2:List o7) (x143:Int×(List l6)×a06):Option (Fl (Int×(List l6)×a06) ((List l6)×a06)) :=
 bif decide (0<x143.1) then (F_5 (x143.2.1.length:Int)).bind fun y186=>chk (a1o ([107,105,110,100].length+y186.length)) ((F_3 x143.2.2 (y2.length:Int)).bind fun y187=>chk (inb y187.1 y2.length) ((F_3 y187.2 2).bind fun y188=>jn (α:=l6×a06) ((F_3 y188.2 8).bind fun y197=>bif decide (y197.1=0) then some ((l6.mk (([107,105,110,100]:Str)++y186) (y2.getD (y187.1).toNat default) (decide (y188.1=1)) 1 0 [] 0),y197.2) else bif decide (y197.1=1) then (F_3 y197.2 4).bind fun y198=>chk (a0c (y198.1*65536)) (some ((l6.mk (([107,105,110,100]:Str)++y186) (y2.getD (y187.1).toNat default) (decide (y188.1=1)) 0 (y198.1*65536) [] 0),y198.2)) else bif decide (y197.1=2) then (F_y y197.2 3 8).bind fun y199=>some ((l6.mk (([107,105,110,100]:Str)++y186) (y2.getD (y187.1).toNat default) (decide (y188.1=1)) 0 0 [[107,101,121]] y199.1),y199.2) else bif decide (y197.1=3) then (F_3 y197.2 6).bind fun y200=>some ((l6.mk (([107,105,110,100]:Str)++y186) (y2.getD (y187.1).toNat default) (decide (y188.1=1)) 0 0 [[97],[112,97,115,115]] y200.1),y200.2) else bif decide (y197.1=4) then (F_y y197.2 0 4).bind fun y201=>some ((l6.mk (([107,105,110,100]:Str)++y186) (y2.getD (y187.1).toNat default) (decide (y188.1=1)) y201.1 0 [] 0),y201.2) else some ((l6.mk (([107,105,110,100]:Str)++y186) (y2.getD (y187.1).toNat default) (decide (y188.1=1)) 0 0 [] 0),y197.2)) fun j195=>chk (room (x143.2.1.length+[j195.1].length) 144) (chk (a0c (x143.1 - 1)) (some (.nx ((x143.1 - 1),(x143.2.1++[j195.1]),j195.2)))))) else some (.ex (x143.2.1,x143.2.2))
def e2z (t_:a06):Option ((List l6)×a06) :=
 f0s.bind fun y2=>(F_y t_ 1 3).bind fun y88=>(loop (f7h y2) (y88.1,[],y88.2)).bind fun r202=>some (r202.1,r202.2)
def f6k:List (Nat×RN):=[(1,⟨[],[.k 0 1],[]⟩),(3,⟨[],[.c 1 0 [1000] []],[]⟩),(6,⟨[],[.c 8 0 [1000] [],.c 12 0 [1000] []],[]⟩),(7,⟨[],[.c 1 0 [1000] []],[]⟩),(11,⟨[.gc [0,3,4,5,6]],[.c 1 0 [1000] []],[]⟩),(13,⟨[.gc [0,3,4,5,6]],[.c 2 0 [1000] []],[]⟩),(15,⟨[.gc [0,3,4,5,6]],[.c 2 0 [1000] []],[]⟩),(17,⟨[.gc [0,3,4,5,6]],[.c 1 0 [1000] []],[]⟩)]
@[irreducible] def d85:MC:=rdc (cK Tryz.prog Tryz.f16 f6k [] 10000018)
@[irreducible] def e5m:MC:=rdc (cK Tryz.prog Tryz.f16 f6k [(10000018,d85)] 4)
instance:LI d85 0 0 [0,3,4,5,6] [2003] (fun y:l6×a06=>[]) (fun y=>[.o 6 (.cells [.str y.1.Name,.int .i64 y.1.Pattern.Op,.sl (y.1.Pattern.Ranges.map o9.v),.sl (y.1.Pattern.Kids.map o7.v),.int .i64 y.1.Pattern.Min,.int .i64 y.1.Pattern.Max,.bool y.1.Whole,.int .i64 y.1.Check,.int .i64 y.1.Entropy,.sl (y.1.Words.map V.str),.int .i64 y.1.Near]),.o 1000 (.cells [.sl (y.2.L.map (V.int .i64)),.int .i64 y.2.at_])]) [.fzc 6]:=⟨⟩
instance:LI e5m 0 0 [0,4] [] (fun y:Int×(List l6)×a06=>[(3,.osl 2003 11 0 y.2.1.length),(5,.int .i64 y.1)]) (fun y=>[.o 2003 (.arr 11 (y.2.1.map l6.v)),.o 1000 (.cells [.sl (y.2.2.L.map (V.int .i64)),.int .i64 y.2.2.at_])]) [.gc [0,3,4,5],.acc 3 2003 11]:=⟨⟩
instance g4p {t_:a06}:WI (e2z t_) Tryz.prog 16 [.ptr 1000 0] [(1000,.cells [.sl (t_.L.map (V.int .i64)),.int .i64 t_.at_])] (fun z=>.sl (z.1.map l6.v)) (fun z=>[(1000,.cells [.sl (z.2.L.map (V.int .i64)),.int .i64 z.2.at_])]):=wX Tryz.func16 f6k [(10000018,d85),(4,e5m)] [.fz 2] [1000] (h:=fun _ _ h hQ M=>by unfold e2z at h;exact tX)
def f1t (x1218:Int×Int×Int×(List l8)×a06):Option (Fl (Int×Int×Int×(List l8)×a06) (Int×Int×(List l8)×a06)) :=
 (F_y x1218.2.2.2.2 1 3).bind fun y1234=>bif decide (x1218.1<y1234.1) then (F_3 y1234.2 5).bind fun y1239=>chk (inb y1239.1 [[97],[49,58,97],[102,48],[100,111,99,115,47,120],[102,48,33,105,110]].length) ((F_3 y1239.2 9).bind fun y1240=>(F_3 y1240.2 5).bind fun y1241=>(F_3 y1241.2 9).bind fun y1242=>chk (a0c (5+y1242.1)) (chk (room (x1218.2.2.2.1.length+[(l8.mk (b0s.mk x1218.1 ([[97],[49,58,97],[102,48],[100,111,99,115,47,120],[102,48,33,105,110]].getD ((y1239.1).toNat) default) y1240.1) [] y1241.1 (5+y1242.1))].length) 72) (chk (a0c (x1218.1+1)) (some (.nx ((x1218.1+1),x1218.2.1,x1218.2.2.1,(x1218.2.2.2.1++[(l8.mk (b0s.mk x1218.1 ([[97],[49,58,97],[102,48],[100,111,99,115,47,120],[102,48,33,105,110]].getD ((y1239.1).toNat) default) y1240.1) [] y1241.1 (5+y1242.1))]),y1242.2)))))) else some (.ex (x1218.2.1,x1218.2.2.1,x1218.2.2.2.1,y1234.2))
def f7r (x881:Int×(List l5)×a06):Option (Fl (Int×(List l5)×a06) ((List l5)×a06)) :=
 bif decide (0<x881.1) then (F_3 x881.2.2 2).bind fun y1145=>(F_3 y1145.2 2).bind fun y1146=>jn (α:=Int×Int×a06) (bif decide (0<(x881.2.1.length:Int)) then chk (a0c ((x881.2.1.length:Int) - 1)) (chk (inb ((x881.2.1.length:Int) - 1) x881.2.1.length) ((F_3 y1146.2 2).bind fun y1151=>chk (a0c ((x881.2.1.getD ((((x881.2.1.length:Int) - 1)).toNat) default).Kind+y1151.1)) (some (((x881.2.1.getD ((((x881.2.1.length:Int) - 1)).toNat) default).Kind+y1151.1),(IntKind.wrap .u64 ((x881.2.1.getD ((((x881.2.1.length:Int) - 1)).toNat) default).Fingerprint+1)),y1151.2)))) else some (y1145.1,(IntKind.wrap .u64 ((IntKind.wrap .u64 (x881.2.1.length:Int))+(IntKind.wrap .u64 y1146.1))),y1146.2)) fun j1149=>(loop f1t (0,j1149.1,j1149.2.1,[],j1149.2.2)).bind fun r1243=>chk (room (x881.2.1.length+[(l5.mk r1243.1 r1243.2.1 r1243.2.2.1)].length) 40) (chk (a0c (x881.1 - 1)) (some (.nx ((x881.1 - 1),(x881.2.1++[(l5.mk r1243.1 r1243.2.1 r1243.2.2.1)]),r1243.2.2.2)))) else some (.ex (x881.2.1,x881.2.2))
def f06 (t_:a06):Option ((List l5)×a06) :=
 (F_3 t_ 4).bind fun y530=>(loop f7r (y530.1,[],y530.2)).bind fun r1244=>some (r1244.1,r1244.2)
def f0n:List (Nat×RN):=[(1,⟨[],[.k 0 1],[]⟩),(2,⟨[],[.c 1 0 [1000] []],[]⟩),(5,⟨[],[.c 1 0 [1000] [],.c 6 0 [1000] [],.k 9 1],[]⟩),(6,⟨[.gc [0,3,4,5]],[],[]⟩),(8,⟨[.gc [0,3,4,5,6]],[.c 3 0 [1000] []],[]⟩),(11,⟨[],[.c 2 0 [1000] []],[]⟩),(12,⟨[.gc [0,3,4,5,7]],[],[]⟩),(13,⟨[],[.c 5 0 [1000] [],.c 9 0 [1000] [],.c 12 0 [1000] [],.c 14 0 [1000] []],[]⟩),(14,⟨[],[],[.n 2 (.fz 70)]⟩)]
@[irreducible] def c6z:MC:=rdc (cK Tryz.prog Tryz.f18 f0n [] 11)
@[irreducible] def d0z:MC:=rdc (cK Tryz.prog Tryz.f18 f0n [(11,c6z)] 10000010)
@[irreducible] def d8z:MC:=rdc (cK Tryz.prog Tryz.f18 f0n [(11,c6z),(10000010,d0z)] 3)
def e6f:MC:=rdc (cT Tryz.prog Tryz.f18 f0n [(11,c6z),(10000010,d0z),(3,d8z)])
instance g4y {t_:a06}:WI (f06 t_) Tryz.prog 18 [.ptr 1000 0] [(1000,.cells [.sl (t_.L.map (V.int .i64)),.int .i64 t_.at_])] (fun z=>.sl (z.1.map l5.v)) (fun z=>[(1000,.cells [.sl (z.2.L.map (V.int .i64)),.int .i64 z.2.at_])]):=⟨fun Q Q' h hQ=>by
 refine a0s e6f [.fz 2] [1000] [.t 2] Tryz.func18 fun M=>?_
 unfold f06 at h
 unfold e6f
 replace h:=tY h
 refine tB ?_
 repeat' (first
 | (exact tZ)
 | ((first|refine a6y h ?_|refine a1i h ?_|refine d1z h ?_|refine d49 h ?_|refine c9o h ?_|refine appG h ?_|refine d4i h ?_|refine fork h ?_ ?_|refine a1j h ?_ ?_)<;>clear h<;>intro hc h)
 | (obtain ⟨y,hy,h⟩:=h;have hw:=WI.w hy;replace hw:=tY hw;(first|refine M.sC hw ?_|refine M.sD hw ?_);clear hw hy;refine tB ?_)
 | (refine M.wh1 (b:=c6z) [0,3,4,5] [2003] (fun x=>[(7,.int .i64 x.1)]) (fun x=>[.o 5 (.cells [.int .i64 x.2.1,.int .u64 x.2.2.1,.osl 4082 6 0 x.2.2.2.1.length]),.o 4082 (.arr 6 (x.2.2.2.1.map l8.v)),.o 1000 (.cells [.sl (x.2.2.2.2.L.map (V.int .i64)),.int .i64 x.2.2.2.2.at_])]) [.gc [0,3,4,5,7],.ownC 5 2 4082 6 none] h ?_ ?_<;>first
 | (clear h;intro x Qn K hK1 h;unfold f1t at h;unfold c6z;replace h:=tY h;refine tB ?_)
  |(clear h;(try refine tB ?_);exact tU0;done))
 | (refine M.jn1 (b:=d0z) [0,3,4,5] [5,2003] (fun y=>[]) (fun y=>[.p 5 0 [.int .i64 y.1],.p 5 1 [.int .u64 y.2.1],.o 1000 (.cells [.sl (y.2.2.L.map (V.int .i64)),.int .i64 y.2.2.at_])]) [] h ?_ ?_<;>first
 | (clear h;intro Qn K hK2 h;replace h:=tY h;refine tB ?_)
  |(clear h;intro y h;unfold d0z;replace h:=tY h;refine tB ?_))
 | (refine M.wh1 (b:=d8z) [0] [] (fun x=>[(3,.osl 2003 3 0 x.2.1.length),(4,.int .i64 x.1)]) (fun x=>[.o 2003 (.arr 3 (x.2.1.map l5.v)),.o 1000 (.cells [.sl (x.2.2.L.map (V.int .i64)),.int .i64 x.2.2.at_])]) [.gc [0,3,4],.acc 3 2003 3] h ?_ ?_<;>first
 | (clear h;intro x Qn K hK3 h;unfold f7r at h;unfold d8z;replace h:=tY h;refine tB ?_)
  |(clear h;(try refine tB ?_);exact tU0;done))
 | ((first|refine hK1 _ ?_|refine hK2 _ ?_|refine hK3 _ ?_);(try refine tB ?_);refine ⟨_,h,?_⟩;exact tU0;done)
 | (refine tE4 V.str ?_;(first|rw [M.lok_compU]|rw [M.lokD_compU]|(simp only [V.cells];first|rw [M.lok_comp]|rw [M.lokD_comp]));refine tB ?_)
 | (refine tE ?_;(first|rw [M.lok_compU]|rw [M.lokD_compU]);refine tB ?_)
 | (refine tA ?_)
 | fail)⟩
def e2l (n_:o7):Option Int :=
 (e0z n_).bind fun y4=>bif (!decide (y4=0)) then some 0 else (F_2 n_ false).bind fun y6=>some y6
instance g3v {n_:o7}:WJ (e2l n_) 108 [o7.v n_] (.int .i64):=wX Tryz.func108 (h:=fun _ _ h hQ M=>by unfold e2l at h;exact tX)
def e2k (n_:o7):Option Int :=
 (e0z n_).bind fun y4=>bif (!decide (y4=0)) then some 0 else (F_2 n_ true).bind fun y6=>some y6
instance g3u {n_:o7}:WJ (e2k n_) 109 [o7.v n_] (.int .i64):=wX Tryz.func109 (h:=fun _ _ h hQ M=>by unfold e2k at h;exact tX)
def e9p (jI:Int):Option Bool :=
 grp ((decide (0≤jI)&&decide (jI≤4))) fun b2=>some b2
instance g3m {jI:Int}:WJ (e9p jI) 110 [.int .i64 jI] .bool:=wX Tryz.func110 [(1,⟨[],[],[.v 3 5]⟩)] (h:=fun _ _ h hQ M=>by unfold e9p at h;exact tX)
@[go_sem] def f7q (k_:l6) (x94:Int):Option (Fl Int (Sum Unit Int)) :=
 bif decide (x94<(k_.Words.length:Int)) then chk (inb x94 k_.Words.length) (bif decide (((k_.Words.getD (x94).toNat default).length:Int)<1) then some (.ex (.inr 2)) else chk (inb x94 k_.Words.length) (bif decide (64<((k_.Words.getD (x94).toNat default).length:Int)) then some (.ex (.inr 2)) else chk (a0c (x94+1)) (some (.nx (x94+1))))) else some (.ex (.inl ()))
def e2y (k_:l6):Option Int :=
 jn (α:=Fl Unit Int) ((e2l k_.Pattern).bind fun y65=>bif decide (y65<1) then grp (true) fun b66=>grp ((b66||decide (1073741824<k_.Entropy))) fun b67=>grp ((b67||decide (16<(k_.Words.length:Int)))) fun b68=>grp ((b68||decide (k_.Near<0))) fun b69=>grp ((b69||decide (64<k_.Near))) fun b70=>grp ((b70||(decide ((k_.Words.length:Int)=0)&&(!decide (k_.Near=0))))) fun b71=>bif b71 then some (.ex 2) else some (.nx ()) else (e2k k_.Pattern).bind fun y72=>bif decide (256<y72) then grp (true) fun b73=>grp ((b73||decide (1073741824<k_.Entropy))) fun b74=>grp ((b74||decide (16<(k_.Words.length:Int)))) fun b75=>grp ((b75||decide (k_.Near<0))) fun b76=>grp ((b76||decide (64<k_.Near))) fun b77=>grp ((b77||(decide ((k_.Words.length:Int)=0)&&(!decide (k_.Near=0))))) fun b78=>bif b78 then some (.ex 2) else some (.nx ()) else (e9p k_.Check).bind fun y79=>grp (((!y79)||decide (k_.Entropy<0))) fun b80=>grp ((b80||decide (1073741824<k_.Entropy))) fun b81=>grp ((b81||decide (16<(k_.Words.length:Int)))) fun b82=>grp ((b82||decide (k_.Near<0))) fun b83=>grp ((b83||decide (64<k_.Near))) fun b84=>grp ((b84||(decide ((k_.Words.length:Int)=0)&&(!decide (k_.Near=0))))) fun b85=>bif b85 then some (.ex 2) else some (.nx ())) fun o=>o.elim (fun j43=>(loop (f7q k_) 0).bind fun r95=>Sum.elim (fun u96=>some 0) (fun u97=>some u97) r95) (fun r98=>some r98)
def f6j:List (Nat×RN):=[(1,⟨[],[],[.v 17 20,.v 22 25,.v 27 31,.v 33 36,.v 38 41,.v 43 52]⟩),(5,⟨[.gc [1,3,72,73,74,75,76,77,78]],[],[]⟩)]
@[irreducible] def d8y:MC:=rdc (cK Tryz.prog Tryz.f73 f6j [] 4)
@[irreducible] def e5c:MC:=rdc (cK Tryz.prog Tryz.f73 f6j [(4,d8y)] 10000003)
instance:LI d8y 0 0 [1] [1] (fun y:Int=>[(3,.int .i64 y)]) (fun y=>[]) []:=⟨⟩
instance:LI e5c 0 0 [1] [1] (fun y:Unit=>[]) (fun y=>[]) []:=⟨⟩
instance g4o {k_:l6}:WJ (e2y k_) 73 [l6.v k_] (.int .i64):=wX Tryz.func73 f6j [(4,d8y),(10000003,e5c)] (h:=fun _ _ h hQ M=>by unfold e2y at h;exact tX)
def e9o (k_:l6):Option Int :=
 (e1f k_.Name).bind fun y4=>bif (!y4) then some 4 else (e2n k_.Pattern).bind fun y8=>bif (!decide (y8.2=0)) then some y8.2 else (e2y k_).bind fun y10=>some y10
instance g3l {k_:l6}:WJ (e9o k_) 40 [l6.v k_] (.int .i64):=wX Tryz.func40 [(6,⟨[.gc [1]],[],[]⟩)] (h:=fun _ _ h hQ M=>by unfold e9o at h;exact tX)
@[go_sem] def f7v (l_:List l6) (x33:Int):Option (Fl Int (Sum Unit Int)) :=
 bif decide (x33<(l_.length:Int)) then chk (inb x33 l_.length) ((e9o (l_.getD (x33).toNat default)).bind fun y41=>bif (!decide (y41=0)) then some (.ex (.inr y41)) else chk (a0c (x33+1)) (some (.nx (x33+1)))) else some (.ex (.inl ()))
@[go_sem] def f7p (l_:List l6) (x113:Int) (x134:Int):Option (Fl Int (Sum Unit Int)) :=
 bif decide (x134<x113) then chk (inb x113 l_.length) (chk (inb x134 l_.length) (bif decide ((l_.getD (x113).toNat default).Name=(l_.getD (x134).toNat default).Name) then some (.ex (.inr 7)) else chk (a0c (x134+1)) (some (.nx (x134+1))))) else some (.ex (.inl ()))
@[go_sem] def f7g (l_:List l6) (x113:Int):Option (Fl Int (Sum Unit Int)) :=
 bif decide (x113<(l_.length:Int)) then (loop (f7p l_ x113) 0).bind fun r135=>Sum.elim (fun u136=>chk (a0c (x113+1)) (some (.nx (x113+1)))) (fun u137=>some (.ex (.inr u137))) r135 else some (.ex (.inl ()))
def e1e (l_:List l6):Option Int :=
 grp ((decide ((l_.length:Int)=0)||decide (32<(l_.length:Int)))) fun b4=>bif b4 then some 3 else (loop (f7v l_) 0).bind fun r42=>Sum.elim (fun u43=>(loop (f7g l_) 0).bind fun r138=>Sum.elim (fun u139=>some 0) (fun u140=>some u140) r138) (fun u44=>some u44) r42
def f0m:List (Nat×RN):=[(1,⟨[],[],[.v 4 7]⟩),(5,⟨[.gc [0,3]],[],[]⟩),(14,⟨[.gc [0,5,6]],[],[]⟩)]
@[irreducible] def d1m:MC:=rdc (cK Tryz.prog Tryz.f20 f0m [] 4)
@[irreducible] def d8x:MC:=rdc (cK Tryz.prog Tryz.f20 f0m [(4,d1m)] 13)
@[irreducible] def e5l:MC:=rdc (cK Tryz.prog Tryz.f20 f0m [(4,d1m),(13,d8x)] 10)
instance:LI d1m 0 0 [0] [] (fun y:Int=>[(3,.int .i64 y)]) (fun y=>[]) []:=⟨⟩
instance:LI d8x 0 0 [0,5] [] (fun y:Int=>[(6,.int .i64 y)]) (fun y=>[]) []:=⟨⟩
instance:LI e5l 0 0 [0] [] (fun y:Int=>[(5,.int .i64 y)]) (fun y=>[]) []:=⟨⟩
instance g4x {l_:List l6}:WJ (e1e l_) 20 [.sl (l_.map l6.v)] (.int .i64):=wX Tryz.func20 f0m [(4,d1m),(13,d8x),(10,e5l)] (h:=fun _ _ h hQ M=>by unfold e1e at h;exact tX)
@[go_sem] def f7o (y2:(List l6)×a06) (y6:(List l7)×a06) (y8:(List l5)×a06) (x917:(List l7)×(List l7)×(List l7)×Int) (x1246:Int):Option (Fl Int (Sum Unit Bool)) :=
 chk (inb x917.2.2.2 y8.1.length) (bif decide (x1246<(((y8.1.getD (x917.2.2.2).toNat default).Where).length:Int)) then chk (inb x917.2.2.2 y8.1.length) ((c99 x917.1 y2.1 (y8.1.getD (x917.2.2.2).toNat default) x1246).bind fun y1290=>chk (inb x917.2.2.2 y8.1.length) ((c99 x917.2.1 y2.1 (y8.1.getD (x917.2.2.2).toNat default) x1246).bind fun y1292=>chk (inb x917.2.2.2 y8.1.length) ((c99 y6.1 y2.1 (y8.1.getD (x917.2.2.2).toNat default) x1246).bind fun y1294=>chk (inb x917.2.2.2 y8.1.length) ((c99 x917.2.2.1 y2.1 (y8.1.getD (x917.2.2.2).toNat default) x1246).bind fun y1296=>grp (((!decide (y1290.1=y1292.1))||(!decide (y1290.2=y1292.2)))) fun b1300=>grp ((b1300||decide (y1290.2<0))) fun b1301=>grp ((b1301||(!decide (y1294.1=y1296.1)))) fun b1302=>bif b1302 then some (.ex (.inr false)) else chk (a0c (x1246+1)) (some (.nx (x1246+1))))))) else some (.ex (.inl ())))
@[go_sem] def f0v (y2:(List l6)×a06) (y6:(List l7)×a06) (y8:(List l5)×a06) (x917:(List l7)×(List l7)×(List l7)×Int):Option (Fl ((List l7)×(List l7)×(List l7)×Int) (Sum Unit Bool)) :=
 bif decide (x917.2.2.2<(y8.1.length:Int)) then (loop (f7o y2 y6 y8 x917) 0).bind fun r1303=>Sum.elim (fun u1304=>chk (a0c (x917.2.2.2+1)) (some (.nx (x917.1,x917.2.1,x917.2.2.1,(x917.2.2.2+1))))) (fun u1305=>some (.ex (.inr u1305))) r1303 else some (.ex (.inl ()))
def e9y (vI:List Int) (at_:Int):Option Bool :=
 (e2z (a06.mk vI 0)).bind fun y2=>(F_3 y2.2 4).bind fun y5=>(e9w y5.2 y5.1).bind fun y6=>chk (a0c ((y6.1.length:Int)+1)) (chk (c4t (at_ % 2^8) ((y6.1.length:Int)+1)) (chk (inc 0 ((at_ % 2^8) % ((y6.1.length:Int)+1)) y6.1.length) (chk (room (([]:List l7).length+(y6.1.take ((((at_ % 2^8) % ((y6.1.length:Int)+1))).toNat)).length) 88) (chk (room ((([]:List l7)++(y6.1.take ((((at_ % 2^8) % ((y6.1.length:Int)+1))).toNat))).length+[(l7.mk [97,108,119,97,121,115] (d9.mk 5 [] 0 0 []) 2)].length) 88) (chk (room (([]:List l7).length+((([]:List l7)++(y6.1.take ((((at_ % 2^8) % ((y6.1.length:Int)+1))).toNat)))++[(l7.mk [97,108,119,97,121,115] (d9.mk 5 [] 0 0 []) 2)]).length) 88) (chk (inc ((at_ % 2^8) % ((y6.1.length:Int)+1)) (y6.1.length:Int) y6.1.length) (chk (room ((([]:List l7)++((([]:List l7)++(y6.1.take ((((at_ % 2^8) % ((y6.1.length:Int)+1))).toNat)))++[(l7.mk [97,108,119,97,121,115] (d9.mk 5 [] 0 0 []) 2)])).length+(y6.1.drop ((((at_ % 2^8) % ((y6.1.length:Int)+1))).toNat)).length) 88) (chk (inc 0 ((at_ % 2^8) % ((y6.1.length:Int)+1)) y6.1.length) (chk (room (([]:List l7).length+(y6.1.take ((((at_ % 2^8) % ((y6.1.length:Int)+1))).toNat)).length) 88) (chk (room ((([]:List l7)++(y6.1.take ((((at_ % 2^8) % ((y6.1.length:Int)+1))).toNat))).length+[(l7.mk [110,101,118,101,114] (d9.mk 9 [] 0 0 [(d9.mk 5 [] 0 0 [])]) 2)].length) 88) (chk (inc ((at_ % 2^8) % ((y6.1.length:Int)+1)) (y6.1.length:Int) y6.1.length) (chk (room (((([]:List l7)++(y6.1.take ((((at_ % 2^8) % ((y6.1.length:Int)+1))).toNat)))++[(l7.mk [110,101,118,101,114] (d9.mk 9 [] 0 0 [(d9.mk 5 [] 0 0 [])]) 2)]).length+(y6.1.drop ((((at_ % 2^8) % ((y6.1.length:Int)+1))).toNat)).length) 88) ((f06 y6.2).bind fun y8=>(loop (f0v y2 y6 y8) (((([]:List l7)++(y6.1.take ((((at_ % 2^8) % ((y6.1.length:Int)+1))).toNat)))++[(l7.mk [97,108,119,97,121,115] (d9.mk 5 [] 0 0 []) 2)]),((([]:List l7)++((([]:List l7)++(y6.1.take ((((at_ % 2^8) % ((y6.1.length:Int)+1))).toNat)))++[(l7.mk [97,108,119,97,121,115] (d9.mk 5 [] 0 0 []) 2)]))++(y6.1.drop ((((at_ % 2^8) % ((y6.1.length:Int)+1))).toNat))),(((([]:List l7)++(y6.1.take ((((at_ % 2^8) % ((y6.1.length:Int)+1))).toNat)))++[(l7.mk [110,101,118,101,114] (d9.mk 9 [] 0 0 [(d9.mk 5 [] 0 0 [])]) 2)])++(y6.1.drop ((((at_ % 2^8) % ((y6.1.length:Int)+1))).toNat))),0)).bind fun r1306=>Sum.elim (fun u1307=>(e1e y2.1).bind fun y1312=>jn (α:=Bool) (bif decide (y1312=0) then e2o.bind fun y1314=>some y1314 else some false) fun j1315=>some j1315) (fun u1308=>some u1308) r1306)))))))))))))
def f6h:List (Nat×RN):=[(2,⟨[],[.c 1 0 [27] []],[]⟩),(3,⟨[],[.c 2 0 [27] [],.c 3 0 [27] []],[]⟩),(4,⟨[.gc [1,5,6,7,140,141,142,145,146,149,150,151,157]],[],[]⟩),(6,⟨[.gc [5,6,7,8,9,140,141,142,145,146,149,150,151,157]],[],[]⟩),(8,⟨[.gc [5,6,7,8,10,11,140,141,142,145,146,149,150,151,157]],[],[]⟩),(9,⟨[.fzc 10],[],[]⟩),(10,⟨[.gc [5,6,7,11,12,13,140,141,142,145,146,149,150,151,157]],[.c 1 0 [27] []],[]⟩),(16,⟨[.gc [6,7,11,12,13,14,15,16,140,141,142,145,146,149,150,151,157]],[],[]⟩),(17,⟨[.gc [6,7,11,12,13,14,15,16,140,141,142,145,146,149,150,151,157]],[],[.n 7 (.fz 93)]⟩),(18,⟨[.gc [6,7,11,12,13,14,15,16,17,18,140,141,142,145,146,149,150,151,157]],[],[.n 7 (.fz 104)]⟩),(19,⟨[.gc [6,7,11,12,13,14,15,16,17,18,19,20,140,141,142,145,146,149,150,151,157]],[],[]⟩),(20,⟨[.gc [6,7,11,12,13,14,15,16,17,18,19,20,21,140,141,142,145,146,149,150,151,157]],[],[.n 7 (.fz 126)]⟩),(21,⟨[.gc [6,7,11,12,13,14,15,16,17,18,19,20,21,23,140,141,142,145,146,149,150,151,157]],[],[.v 4 7,.v 9 11,.v 13 16]⟩),(23,⟨[],[],[.w 4 5 42304]⟩)]
@[irreducible] def d8w:MC:=rdc (cK Tryz.prog Tryz.f4 f6h [] 15)
@[irreducible] def e5t:MC:=rdc (cK Tryz.prog Tryz.f4 f6h [(15,d8w)] 12)
instance:LI d8w 0 0 [6,7,11,12,13,14,15] [] (fun y:Int=>[(16,.int .i64 y)]) (fun y=>[]) []:=⟨⟩
instance:LI e5t 0 0 [6,7,14] [] (fun y:(List l7)×(List l7)×(List l7)×Int=>[(11,.sl (y.1.map l7.v)),(12,.sl (y.2.1.map l7.v)),(13,.sl (y.2.2.1.map l7.v)),(15,.int .i64 y.2.2.2)]) (fun y=>[]) [.fz 11,.fz 12,.fz 13]:=⟨⟩
instance f5m {m:List MOp}:GI (gjt 42304 m) [] [] (fun y:Bool=>[(158,.bool y)]) (fun y=>[]):=⟨⟩
instance g4i {vI:List Int} {at_:Int}:WJ (e9y vI at_) 4 [.sl (vI.map (V.int .i64)),.int .i64 at_] .bool:=wX Tryz.func4 f6h [(15,d8w),(12,e5t)] (h:=fun _ _ h hQ M=>by have:SwA [(1000,27)]:=⟨⟩;unfold e9y at h;exact tX)
end
end Go.Ab