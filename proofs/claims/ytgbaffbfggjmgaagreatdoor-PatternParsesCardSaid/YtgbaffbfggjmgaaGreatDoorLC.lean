/- What the functions of this seat that lie on the laws' road compute (part LC), each for every input. By AI agents. -/
import Derived.Test.YtgbaffbfggjmgaaGreatDoorProg
import Derived.KernelRfl
import Derived.Test.YtgbaffbfggjmgaaGreatDoorAbFun
import Derived.Test.YtgbaffbfggjmgaaGreatDoorLB
set_option linter.all false
set_option linter.all false
set_option maxRecDepth 20000
set_option maxHeartbeats 2000000
namespace Go.Ab
open Go.Proofs
structure GTape where
 L:List Int
 at_:Int
instance:Inhabited GTape:=⟨⟨default,default⟩⟩
def GTape.v (x:GTape):V:=.agg [.sl (x.L.map (V.int .i64)),.int .i64 x.at_]
theorem inbk_1 {n:Nat}:(inb 1 n=true)=(((1:Nat):Int)<(n:Int)):=propext (by rw [inb_iff];omega)
attribute [go_sem] inbk_1
attribute [go_sem] GTape.v
def F_16 (t_:GTape) (n_:Int):Option (Int×GTape) :=
 bif decide ((t_.L.length:Int)≤t_.at_) then some (0,t_) else chk (inb t_.at_ t_.L.length) (chk (in64 (t_.at_+1)) (chk (divs ((t_.L.getD (t_.at_).toNat default) % 2^16) n_) (some ((((t_.L.getD (t_.at_).toNat default) % 2^16) % n_),(GTape.mk t_.L (t_.at_+1))))))
def mc_16:MC :=
 (sR [oC 0 4]
 (.seq (.seq (.regD [oV 0 6,
 mo (.nck (.t 6)) 7,
 oF 1 7 8,
 oL 8 9,
 oV 0 10,
 mo (.nck (.t 10)) 11,
 oF 0 11 12,
 oL 12 13,
 mo (.len false (.t 13)) 14,
 mo (.bin false .geq (.t 9) (.t 14)) 15]
 [[],[0],[1],[2],[],[4],[5],[6],[7],[3,8]]
 [[],[0],[0,1],[0,1,2],[],[4],[4,5],[4,5,6],[4,5,6,7],[0,1,2,3,4,5,6,7,8]])
 (.cond (.t 15)
 (sR [oC 0 4]
 .ret)
 .skip))
 (.seq (.note (.gc [0,1]) (.regD [oV 0 16,
 mo (.nck (.t 16)) 17,
 oF 0 17 18,
 oL 18 19,
 oV 0 20,
 mo (.nck (.t 20)) 21,
 oF 1 21 22,
 oL 22 23,
 mo (.iad 1 (.t 19) (.t 23)) 24,
 oL 24 25,
 mo (.mask 16 (.t 25) .i64) 26,
 oV 26 5]
 [[],[0],[1],[2],[],[4],[5],[6],[3,7],[8],[9],[10,0,1,2,3,4,5,6,7,8,9,10]]
 [[],[0],[0,1],[0,1,2],[],[4],[4,5],[4,5,6],[0,1,2,3,4,5,6,7],[0,1,2,3,4,5,6,7,8],[0,1,2,3,4,5,6,7,8,9],[0,1,2,3,4,5,6,7,8,9,10]]))
 (.seq (.note (.gc [0,1,5]) (.reg [oV 0 27,
 mo (.nck (.t 27)) 28,
 oF 1 28 29,
 oL 29 30,
 mo (.bin true .add (.t 30) (cI 1)) 31,
 mo (.nck (.t 27)) 32,
 oF 1 32 33,
 ⟨.st 1 (.t 33) (.t 31),none,none⟩]))
 (.seq (.note (.gc [1,5]) (.reg [oV 5 34,
 oV 1 35,
 mo (.bin true .rem (.t 34) (.t 35)) 36,
 oV 36 4]))
 .ret)))))
theorem Wq_16 {t_:GTape} {n_:Int}:Cn Tryz.prog 30 [.ptr 1000 0,.int .i64 n_] [(1000,.cells [.sl (t_.L.map (V.int .i64)),.int .i64 t_.at_])] (F_16 t_ n_) (fun z=>.int .i64 z.1) (fun z=>[(1000,.cells [.sl (z.2.L.map (V.int .i64)),.int .i64 z.2.at_])]):=fun Q Q' h hQ=>by
 refine acallM mc_16 [] [1000] [.t 4] Tryz.func30 fun M=>?_
 unfold F_16 at h
 unfold mc_16
 replace h:=tY h
 refine tB ?_
 repeat' (first
 | (exact tZ)
 | ((first|refine oblg h ?_|refine roomG h ?_|refine divG h ?_|refine fork h ?_ ?_|refine forkS h ?_ ?_)<;>clear h<;>intro hc h)
 | (refine tE ?_;(first|rw [M.lok_compU]|rw [M.lokD_compU]);refine tB ?_)
 | (refine tA ?_)
 | fail)
def F_1j (t_:GTape):Option (GNode×GTape) :=
 (F_16 t_ ([[(GRange.mk 97 98)],[(GRange.mk 48 57)],[(GRange.mk 97 97)],[(GRange.mk 98 98)],[(GRange.mk 48 57),(GRange.mk 97 102)],[(GRange.mk 107 107)],[(GRange.mk 45 45)],[(GRange.mk 0 9),(GRange.mk 250 255)]].length:Int)).bind fun y2=>chk (inb y2.1 [[(GRange.mk 97 98)],[(GRange.mk 48 57)],[(GRange.mk 97 97)],[(GRange.mk 98 98)],[(GRange.mk 48 57),(GRange.mk 97 102)],[(GRange.mk 107 107)],[(GRange.mk 45 45)],[(GRange.mk 0 9),(GRange.mk 250 255)]].length) (some ((GNode.mk 1 ([[(GRange.mk 97 98)],[(GRange.mk 48 57)],[(GRange.mk 97 97)],[(GRange.mk 98 98)],[(GRange.mk 48 57),(GRange.mk 97 102)],[(GRange.mk 107 107)],[(GRange.mk 45 45)],[(GRange.mk 0 9),(GRange.mk 250 255)]].getD ((y2.1).toNat) default) [] 0 0),y2.2))
def mc_1j:MC :=
 (sR [mo (.alloc [(.int .i64 0),(.sl []),(.sl []),(.int .i64 0),(.int .i64 0)]) 2]
 (sR [mo (.build [(.int .u8 0),(.int .u8 0)] [(0,1,(.c (.int .u8 97))),(1,1,(.c (.int .u8 98)))]) 4,
 mo (.lsl 2 [(.t 4)]) 5,
 mo (.build [(.int .u8 0),(.int .u8 0)] [(0,1,(.c (.int .u8 48))),(1,1,(.c (.int .u8 57)))]) 6,
 mo (.lsl 2 [(.t 6)]) 7,
 mo (.build [(.int .u8 0),(.int .u8 0)] [(0,1,(.c (.int .u8 97))),(1,1,(.c (.int .u8 97)))]) 8,
 mo (.lsl 2 [(.t 8)]) 9,
 mo (.build [(.int .u8 0),(.int .u8 0)] [(0,1,(.c (.int .u8 98))),(1,1,(.c (.int .u8 98)))]) 10,
 mo (.lsl 2 [(.t 10)]) 11,
 mo (.build [(.int .u8 0),(.int .u8 0)] [(0,1,(.c (.int .u8 48))),(1,1,(.c (.int .u8 57)))]) 12,
 mo (.build [(.int .u8 0),(.int .u8 0)] [(0,1,(.c (.int .u8 97))),(1,1,(.c (.int .u8 102)))]) 13,
 mo (.lsl 2 [(.t 12),(.t 13)]) 14,
 mo (.build [(.int .u8 0),(.int .u8 0)] [(0,1,(.c (.int .u8 107))),(1,1,(.c (.int .u8 107)))]) 15,
 mo (.lsl 2 [(.t 15)]) 16,
 mo (.build [(.int .u8 0),(.int .u8 0)] [(0,1,(.c (.int .u8 45))),(1,1,(.c (.int .u8 45)))]) 17,
 mo (.lsl 2 [(.t 17)]) 18,
 mo (.build [(.int .u8 0),(.int .u8 0)] [(0,1,(.c (.int .u8 0))),(1,1,(.c (.int .u8 9)))]) 19,
 mo (.build [(.int .u8 0),(.int .u8 0)] [(0,1,(.c (.int .u8 250))),(1,1,(.c (.int .u8 255)))]) 20,
 mo (.lsl 2 [(.t 19),(.t 20)]) 21,
 mo (.bslice 1 [(.t 5),(.t 7),(.t 9),(.t 11),(.t 14),(.t 16),(.t 18),(.t 21)]) 22,
 oV 22 3]
 (.seq (.note (.gc [0,2,3]) (.reg [oV 3 23,
 oV 0 24,
 oV 3 25,
 mo (.len false (.t 25)) 26,
 mo (.call (.f 30) [(.t 24),(.t 26)] [1000] []) 27,
 mo (.iad 1 (.t 23) (.t 27)) 28,
 oL 28 29,
 mo (.build [(.int .i64 0),(.sl []),(.sl []),(.int .i64 0),(.int .i64 0)] [(0,1,(cI 1)),(1,1,(.t 29))]) 30,
 ⟨.st 5 (.t 2) (.t 30),none,none⟩]))
 .ret)))
theorem Wq_1j {t_:GTape}:Cn Tryz.prog 35 [.ptr 1000 0] [(1000,.cells [.sl (t_.L.map (V.int .i64)),.int .i64 t_.at_])] (F_1j t_) (fun z=>GNode.v z.1) (fun z=>[(1000,.cells [.sl (z.2.L.map (V.int .i64)),.int .i64 z.2.at_])]):=fun Q Q' h hQ=>by
 refine acallM mc_1j [.fzc 2] [1000] [.c 2 (some 5)] Tryz.func35 fun M=>?_
 unfold F_1j at h
 unfold mc_1j
 replace h:=tY h
 refine tB ?_
 repeat' (first
 | (exact tZ)
 | ((first|refine oblg h ?_|refine roomG h ?_|refine inbG h ?_|refine fork h ?_ ?_|refine forkS h ?_ ?_)<;>clear h<;>intro hc h)
 | (obtain ⟨y,hy,h⟩:=h;have hw:=Wq_16.w hy;replace hw:=tY hw;(first|refine M.sC hw ?_|refine M.sD hw ?_);clear hw hy;refine tB ?_)
 | (refine tE6 (slV GRange.v) ([[(GRange.mk 97 98)],[(GRange.mk 48 57)],[(GRange.mk 97 97)],[(GRange.mk 98 98)],[(GRange.mk 48 57),(GRange.mk 97 102)],[(GRange.mk 107 107)],[(GRange.mk 45 45)],[(GRange.mk 0 9),(GRange.mk 250 255)]]:List (List GRange)) ?_;(first|rw [M.lok_compU]|rw [M.lokD_compU]|(simp only [slV,V.cells];first|rw [M.lok_comp]|rw [M.lokD_comp]));refine tB ?_)
 | (refine tE5 (slV GRange.v) (by assumption) (by assumption) ?_;(first|rw [M.lok_compU]|rw [M.lokD_compU]|(simp only [slV,V.cells];first|rw [M.lok_comp]|rw [M.lokD_comp]));refine tB ?_)
 | (refine tE4 (slV GRange.v) ?_;(first|rw [M.lok_compU]|rw [M.lokD_compU]|(simp only [V.cells];first|rw [M.lok_comp]|rw [M.lokD_comp]));refine tB ?_)
 | (refine tE ?_;(first|rw [M.lok_compU]|rw [M.lokD_compU]);refine tB ?_)
 | (refine tA ?_)
 | fail)
def F_1q (t_:GTape) (a_:Int) (b_:Int):Option (Int×GTape) :=
 chk (in64 (b_ - a_)) (chk (in64 ((b_ - a_)+1)) ((F_16 t_ ((b_ - a_)+1)).bind fun y2=>chk (in64 (a_+y2.1)) (some ((a_+y2.1),y2.2))))
def mc_1q:MC :=
 (sR [oC 0 6]
 (sR [oV 1 7,
 oV 0 8,
 oV 2 9,
 oV 1 10,
 mo (.bin true .sub (.t 9) (.t 10)) 11,
 mo (.bin true .add (.t 11) (cI 1)) 12,
 mo (.call (.f 30) [(.t 8),(.t 12)] [1000] []) 13,
 mo (.bin true .add (.t 7) (.t 13)) 14,
 oV 14 6]
 .ret))
theorem Wq_1q {t_:GTape} {a_ b_:Int}:Cn Tryz.prog 34 [.ptr 1000 0,.int .i64 a_,.int .i64 b_] [(1000,.cells [.sl (t_.L.map (V.int .i64)),.int .i64 t_.at_])] (F_1q t_ a_ b_) (fun z=>.int .i64 z.1) (fun z=>[(1000,.cells [.sl (z.2.L.map (V.int .i64)),.int .i64 z.2.at_])]):=fun Q Q' h hQ=>by
 refine acallM mc_1q [] [1000] [.t 6] Tryz.func34 fun M=>?_
 unfold F_1q at h
 unfold mc_1q
 replace h:=tY h
 refine tB ?_
 repeat' (first
 | (exact tZ)
 | ((first|refine oblg h ?_|refine roomG h ?_|refine fork h ?_ ?_|refine forkS h ?_ ?_)<;>clear h<;>intro hc h)
 | (obtain ⟨y,hy,h⟩:=h;have hw:=Wq_16.w hy;replace hw:=tY hw;(first|refine M.sC hw ?_|refine M.sD hw ?_);clear hw hy;refine tB ?_)
 | (refine tE ?_;(first|rw [M.lok_compU]|rw [M.lokD_compU]);refine tB ?_)
 | (refine tA ?_)
 | fail)
noncomputable def FR_7:Nat→GTape→Int→Option (GNode×GTape)
 | 0,_,_=>none
 | n+1,t_,deep_ =>
 bif decide (deep_≤1) then (F_1j t_).bind fun y4=>some (y4.1,y4.2) else jn (α:=Fl (Int×GTape) (GNode×GTape)) ((F_16 t_ 5).bind fun y21=>jn (α:=Bool) (bif decide (y21.1=0) then some true else some (decide (y21.1=1))) fun j22=>bif j22 then some (.nx (2,y21.2)) else bif decide (y21.1=2) then some (.nx (3,y21.2)) else bif decide (y21.1=3) then (F_1q y21.2 1 4).bind fun y24=>chk (in64 (y24.1+1)) ((F_16 y24.2 (y24.1+1)).bind fun y26=>jn (α:=Int×Int) (grp ((decide (y26.1=1)&&decide (y24.1=1))) fun b31=>bif b31 then some (y26.1,2) else some (y26.1,y24.1)) fun j29=>chk (in64 (deep_ - 1)) ((FR_7 n y26.2 (deep_ - 1)).bind fun y33=>some (.ex ((GNode.mk 4 [] [y33.1] j29.1 j29.2),y33.2)))) else (F_1j y21.2).bind fun y35=>some (.ex (y35.1,y35.2))) fun o=>o.elim (fun j19=>(F_1q j19.2 2 3).bind fun y67=>(loop (fun (x86:Int×Int×(List GNode)×GTape)=>(bif decide (0<x86.1) then chk (in64 (deep_ - 1)) ((FR_7 n x86.2.2.2 (deep_ - 1)).bind fun y100=>jn (α:=GNode×GTape) (bif decide (y100.1.Op=x86.2.1) then (F_1j y100.2).bind fun y103=>some (y103.1,y103.2) else some (y100.1,y100.2)) fun j102=>chk (room (x86.2.2.1.length+[j102.1].length) 72) (chk (in64 (x86.1 - 1)) (some (.nx ((x86.1 - 1),x86.2.1,(x86.2.2.1++[j102.1]),j102.2))))) else some (.ex (x86.2.1,x86.2.2.1,x86.2.2.2)):Option (Fl (Int×Int×(List GNode)×GTape) (Int×(List GNode)×GTape)))) (y67.1,j19.1,[],y67.2)).bind fun r104=>some ((GNode.mk r104.1 [] r104.2.1 0 0),r104.2.2)) (fun r105=>some r105)
noncomputable def F_7 (t_:GTape) (deep_:Int):Option (GNode×GTape):=lim fun n=>FR_7 n t_ deep_
@[irreducible] def mg_3x:List MOp:=[gT 39 40 (.fad 4 (.t 5)),
 gT 39 41 (.ld none (.t 40)),
 gT 39 42 (.bin false .eql (.t 41) (cI 1)),
 mo (.pick (.t 39) (.t 42) (.c (.bool false))) 43]
@[irreducible] def mc_3y:MC :=
 (sR [oV 0 45,
 oV 1 46,
 mo (.bin true .sub (.t 46) (cI 1)) 47,
 mo (.call (.f 10) [(.t 45),(.t 47)] [1000] []) 48,
 mo (.bslice 5 [(.t 48)]) 49,
 oF 2 5 50,
 ⟨.st 1 (.t 50) (.t 49),none,none⟩]
 (sR [mo (.ld (some 5) (.t 5)) 51,
 ⟨.st 5 (.t 4) (.t 51),none,none⟩]
 .ret))
@[irreducible] def mc_3z:MC :=
 (.cond (.t 17)
 (.reg [oF 0 5 20,
 ⟨.st 1 (.t 20) (cI 2),none,none⟩])
 (sR [mo (.bin false .eql (.t 14) (cI 2)) 22,
 oV 22 21]
 (.cond (.t 21)
 (.reg [oF 0 5 23,
 ⟨.st 1 (.t 23) (cI 3),none,none⟩])
 (sR [mo (.bin false .eql (.t 14) (cI 3)) 25,
 oV 25 24]
 (.cond (.t 24)
 (sR [oF 0 5 26,
 ⟨.st 1 (.t 26) (cI 4),none,none⟩]
 (sR [oV 0 27,
 mo (.call (.f 34) [(.t 27),(cI 1),(cI 4)] [1000] []) 28,
 oF 4 5 29,
 ⟨.st 1 (.t 29) (.t 28),none,none⟩]
 (.seq (.note (.gc [0,1,4,5,40,41,42]) (.reg [oV 0 30,
 oF 4 5 31,
 oL 31 32,
 mo (.bin true .add (.t 32) (cI 1)) 33,
 mo (.call (.f 30) [(.t 30),(.t 33)] [1000] []) 34,
 oF 3 5 35,
 ⟨.st 1 (.t 35) (.t 34),none,none⟩]))
 (.cut (.seq (.regI [.op (oF 3 5 36),
 .op (oL 36 37),
 .op (mo (.bin false .eql (.t 37) (cI 1)) 38),
 .op (oV 38 39),
 .grp mg_3x])
 (.cond (.t 43)
 (.reg [oF 4 5 44,
 ⟨.st 1 (.t 44) (cI 2),none,none⟩])
 .skip))
 mc_3y))))
 (.seq (.note (.gc [0,4]) (.reg [oV 0 15,
 mo (.call (.f 35) [(.t 15)] [1000] []) 16,
 ⟨.st 5 (.t 4) (.t 16),none,none⟩]))
 .ret))))))
@[irreducible] def mc_40:MC :=
 (.reg [oF 2 5 69,
 oL 69 70,
 mo (.ld (some 5) (.t 7)) 71,
 mo (.bslice 5 [(.t 71)]) 72,
 mo (.app 5 72 (.t 70) (.t 72)) 73,
 oF 2 5 74,
 ⟨.st 1 (.t 74) (.t 73),none,none⟩])
@[irreducible] def mc_41:MC :=
 (.seq (sR [oV 6 54,
 mo (.bin false .gtr (.t 54) (cI 0)) 55]
 (.cond (.t 55)
 .skip
 (.exit 1)))
 (.seq (.block 2
 (sR [oV 0 58,
 oV 1 59,
 mo (.bin true .sub (.t 59) (cI 1)) 60,
 mo (.call (.f 10) [(.t 58),(.t 60)] [1000] []) 61,
 mo (.alloc [(.int .i64 0),(.sl []),(.sl []),(.int .i64 0),(.int .i64 0)]) 7,
 ⟨.st 5 (.t 7) (.t 61),none,none⟩]
 (.cut (sR [oF 0 7 62,
 oL 62 63,
 oF 0 5 64,
 oL 64 65,
 mo (.bin false .eql (.t 63) (.t 65)) 66]
 (.cond (.t 66)
 (.note (.gc [0,1,4,5,6,7]) (.reg [oV 0 67,
 mo (.call (.f 35) [(.t 67)] [1000] []) 68,
 ⟨.st 5 (.t 7) (.t 68),none,none⟩]))
 .skip))
 mc_40)))
 (.reg [oV 6 56,
 mo (.bin true .sub (.t 56) (cI 1)) 57,
 oV 57 6])))
@[irreducible] def mc_42:MC :=
 (.seq (sR [oV 0 52,
 mo (.call (.f 34) [(.t 52),(cI 2),(cI 3)] [1000] []) 53,
 oV 53 6]
 (.block 1
 (.loop mc_41)))
 (sR [mo (.ld (some 5) (.t 5)) 75,
 ⟨.st 5 (.t 4) (.t 75),none,none⟩]
 .ret))
def mc_7:MC :=
 (sR [mo (.alloc [(.int .i64 0),(.sl []),(.sl []),(.int .i64 0),(.int .i64 0)]) 4]
 (.seq (sR [oV 1 8,
 mo (.bin false .leq (.t 8) (cI 1)) 9]
 (.cond (.t 9)
 (sR [oV 0 10,
 mo (.call (.f 35) [(.t 10)] [1000] []) 11,
 ⟨.st 5 (.t 4) (.t 11),none,none⟩]
 .ret)
 .skip))
 (sR [mo (.build [(.int .i64 0),.nils,.nils,(.int .i64 0),(.int .i64 0)] []) 12,
 mo (.alloc [(.int .i64 0),(.sl []),(.sl []),(.int .i64 0),(.int .i64 0)]) 5,
 ⟨.st 5 (.t 5) (.t 12),none,none⟩]
 (.cut (sR [oV 0 13,
 mo (.call (.f 30) [(.t 13),(cI 5)] [1000] []) 14]
 (.block 0
 (.cut (sR [mo (.bin false .eql (.t 14) (cI 0)) 18,
 oV 18 17]
 (.cond (.t 17)
 .skip
 (.reg [mo (.bin false .eql (.t 14) (cI 1)) 19,
 oV 19 17])))
 mc_3z)))
 mc_42))))
theorem Wq_7 {n:Nat} (ih_made_Pattern:∀{t_:GTape} {deep_:Int} {y:GNode×GTape},FR_7 n t_ deep_=some y→ACall Tryz.prog 10 [.ptr 1000 0,.int .i64 deep_] [(1000,.cells [.sl (t_.L.map (V.int .i64)),.int .i64 t_.at_])] (fun r H=>r=GNode.v y.1∧H=[(1000,.cells [.sl (y.2.L.map (V.int .i64)),.int .i64 y.2.at_])])) (t_:GTape) (deep_:Int) {Q:GNode×GTape→Prop} {Q':V→Heap→Prop} (h:Ok (FR_7 (n+1) t_ deep_) Q) (hQ:∀z,Q z→Q' (GNode.v z.1) [(1000,.cells [.sl (z.2.L.map (V.int .i64)),.int .i64 z.2.at_])]):ACall Tryz.prog 10 [.ptr 1000 0,.int .i64 deep_] [(1000,.cells [.sl (t_.L.map (V.int .i64)),.int .i64 t_.at_])] Q':=by
 refine acallM mc_7 [.fzc 4] [1000] [.c 4 (some 5)] Tryz.func10 fun M=>?_
 simp only [FR_7] at h
 unfold mc_7
 replace h:=tY h
 refine tB ?_
 repeat' (first
 | (exact tZ)
 | ((first|refine oblg h ?_|refine roomG h ?_|refine fork h ?_ ?_|refine forkS h ?_ ?_)<;>clear h<;>intro hc h)
 | (obtain ⟨y,hy,h⟩:=h;(first|with_reducible first|have hw:=Wq_1j.w hy|have hw:=Wq_16.w hy|have hw:=Wq_1q.w hy|have hw:=ih_made_Pattern hy);replace hw:=tY hw;(first|refine M.sC hw ?_|refine M.sD hw ?_);clear hw hy;refine tB ?_)
 | (refine M.gv1 (ms:=mg_3x) 43 [40,41,42] h ?_ ?_<;>first
 | (clear h;intro K hK1;unfold mg_3x;refine tB ?_)
 | (clear h;intro b h;replace h:=tY h;refine tB ?_))
 | (refine M.jn1 (b:=mc_3y) [0,1,4,5] [5,4,1000] (fun y=>[]) (fun y=>[.p 5 3 [.int .i64 y.1],.p 5 4 [.int .i64 y.2]]) [] h ?_ ?_<;>first
 | (clear h;intro Qn K hK2 h;replace h:=tY h;refine tB ?_)
  |(clear h;intro y h;unfold mc_3y;replace h:=tY h;refine tB ?_))
 | (refine M.jn1 (b:=mc_3z) [0,1,4,5,14] [5,4,1000] (fun y=>[(17,.bool y)]) (fun y=>[]) [] h ?_ ?_<;>first
 | (clear h;intro Qn K hK3 h;replace h:=tY h;refine tB ?_)
  |(clear h;intro y h;unfold mc_3z;replace h:=tY h;refine tB ?_))
 | (refine M.jn1 (b:=mc_40) [0,1,4,5,6,7] [5,4082,4] (fun y=>[]) (fun y=>[.o 7 (.cells [.int .i64 y.1.Op,.sl (y.1.Ranges.map GRange.v),.sl (y.1.Kids.map GNode.v),.int .i64 y.1.Min,.int .i64 y.1.Max]),.o 1000 (.cells [.sl (y.2.L.map (V.int .i64)),.int .i64 y.2.at_])]) [] h ?_ ?_<;>first
 | (clear h;intro Qn K hK4 h;replace h:=tY h;refine tB ?_)
  |(clear h;intro y h;unfold mc_40;replace h:=tY h;refine tB ?_))
 | (refine M.wh1 (b:=mc_41) [0,1,4,5] [5,4] (fun x=>[(6,.int .i64 x.1)]) (fun x=>[.p 5 0 [.int .i64 x.2.1],.p 5 2 [.osl 4082 5 0 x.2.2.1.length],.o 4082 (.arr 5 (x.2.2.1.map GNode.v)),.o 1000 (.cells [.sl (x.2.2.2.L.map (V.int .i64)),.int .i64 x.2.2.2.at_])]) [.gc [0,1,4,5,6],.ownC 5 2 4082 5 none] h ?_ ?_<;>first
 | (clear h;intro x Qn K hK5 h;unfold mc_41;replace h:=tY h;refine tB ?_)
  |(clear h;(try refine tB ?_);exact tU0;done))
 | (refine M.jnE (b:=mc_42) [0,1,4,5] [5,4] (fun y=>[]) (fun y=>[.p 5 0 [.int .i64 y.1],.o 1000 (.cells [.sl (y.2.L.map (V.int .i64)),.int .i64 y.2.at_])]) [] h ?_ ?_<;>first
 | (clear h;intro Qn K hK6 h;replace h:=tY h;refine tB ?_)
  |(clear h;intro y h;unfold mc_42;replace h:=tY h;refine tB ?_))
 | (refine hK1 _ ?_;exact tU;done)
 | ((first|refine hK2 _ ?_|refine hK3 _ ?_|refine hK4 _ ?_|refine hK5 _ ?_|refine hK6 _ ?_);(try refine tB ?_);refine ⟨_,h,?_⟩;exact tU0;done)
 | (refine bfork (fun hc=>?_) (fun hc=>?_))
 | (refine tE ?_;(first|rw [M.lok_compU]|rw [M.lokD_compU]);refine tB ?_)
 | (refine tA ?_)
 | fail)
theorem WG_7:∀n,(∀{t_:GTape} {deep_:Int} {y:GNode×GTape},FR_7 n t_ deep_=some y→ACall Tryz.prog 10 [.ptr 1000 0,.int .i64 deep_] [(1000,.cells [.sl (t_.L.map (V.int .i64)),.int .i64 t_.at_])] (fun r H=>r=GNode.v y.1∧H=[(1000,.cells [.sl (y.2.L.map (V.int .i64)),.int .i64 y.2.at_])]))
 | 0=>fun hy=>(by simp only [FR_7] at hy;cases hy)
 | n+1=>by
  have ih_made_Pattern:=@WG_7 n
  exact fun hy=>Wq_7 ih_made_Pattern _ _ (Q:=(·=_)) ⟨_,hy,rfl⟩ fun|_,rfl=>⟨rfl,rfl⟩
theorem W_7:∀{t_:GTape} {deep_:Int} {y:GNode×GTape},F_7 t_ deep_=some y→ACall Tryz.prog 10 [.ptr 1000 0,.int .i64 deep_] [(1000,.cells [.sl (t_.L.map (V.int .i64)),.int .i64 t_.at_])] (fun r H=>r=GNode.v y.1∧H=[(1000,.cells [.sl (y.2.L.map (V.int .i64)),.int .i64 y.2.at_])]):=fun hy=>by
 obtain ⟨n,hn⟩:=lim_inv hy
 exact (WG_7 n) hn
noncomputable def FR_n:Nat→GNode→Int→Option Int
 | 0,_,_=>none
 | n+1,n_,have_ =>
 chk (in64 (have_+1)) ((loop (fun (x37:Int×Int)=>(grp ((decide (x37.2<(n_.Kids.length:Int))&&decide (x37.1≤200))) fun b47=>bif b47 then chk (inb x37.2 n_.Kids.length) ((FR_n n (n_.Kids.getD (x37.2).toNat default) x37.1).bind fun y49=>chk (in64 (x37.2+1)) (some (.nx (y49,(x37.2+1))))) else some (.ex x37.1):Option (Fl (Int×Int) Int))) ((have_+1),0)).bind fun r50=>some r50)
noncomputable def F_n (n_:GNode) (have_:Int):Option Int:=lim fun n=>FR_n n n_ have_
@[irreducible] def mg_43:List MOp:=[gT 13 14 (.mv (.t 1)),
 gT 13 15 (.bin false .leq (.t 14) (cI 200)),
 mo (.pick (.t 13) (.t 15) (.c (.bool false))) 16]
@[irreducible] def mc_44:MC :=
 (.seq (.seq (.regI [.op (oV 5 8),
 .op (oF 2 2 9),
 .op (oL 9 10),
 .op (mo (.len false (.t 10)) 11),
 .op (mo (.bin false .lss (.t 8) (.t 11)) 12),
 .op (oV 12 13),
 .grp mg_43])
 (.cond (.t 16)
 .skip
 (.exit 0)))
 (.seq (.block 1
 (.reg [oF 2 2 19,
 oL 19 20,
 oV 5 21,
 mo (.iad 5 (.t 20) (.t 21)) 22,
 mo (.ld (some 5) (.t 22)) 23,
 oV 1 24,
 mo (.call (.f 43) [(.t 23),(.t 24)] [] []) 25,
 oV 25 1]))
 (.note (.gc [1,2,5,14,15]) (.reg [oV 5 17,
 mo (.bin true .add (.t 17) (cI 1)) 18,
 oV 18 5]))))
def mc_n:MC :=
 (sR [mo (.box (.t 0)) 2,
 oC 0 4]
 (sR [oV 1 6,
 mo (.bin true .add (.t 6) (cI 1)) 7,
 oV 7 1]
 (.seq (sR [oC 0 5]
 (.block 0
 (.loop mc_44)))
 (sR [oV 1 26,
 oV 26 4]
 .ret))))
theorem Wq_n {n:Nat} (ih_ref05_count:∀{n_:GNode} {have_:Int} {y:Int},FR_n n n_ have_=some y→ACall Tryz.prog 43 [GNode.v n_,.int .i64 have_] [] (fun r H=>r=.int .i64 y∧H=[])) (n_:GNode) (have_:Int) {Q:Int→Prop} {Q':V→Heap→Prop} (h:Ok (FR_n (n+1) n_ have_) Q) (hQ:∀z,Q z→Q' (.int .i64 z) []):ACall Tryz.prog 43 [GNode.v n_,.int .i64 have_] [] Q':=by
 refine acallM mc_n [] [] [.t 4] Tryz.func43 fun M=>?_
 simp only [FR_n] at h
 unfold mc_n
 replace h:=tY h
 refine tB ?_
 repeat' (first
 | (exact tZ)
 | ((first|refine oblg h ?_|refine roomG h ?_|refine fork h ?_ ?_|refine forkS h ?_ ?_)<;>clear h<;>intro hc h)
 | (obtain ⟨y,hy,h⟩:=h;have hw:=ih_ref05_count hy;replace hw:=tY hw;(first|refine M.sC hw ?_|refine M.sD hw ?_);clear hw hy;refine tB ?_)
 | (refine M.gv1 (ms:=mg_43) 16 [14,15] h ?_ ?_<;>first
 | (clear h;intro K hK1;unfold mg_43;refine tB ?_)
 | (clear h;intro b h;replace h:=tY h;refine tB ?_))
 | (refine M.wh1 (b:=mc_44) [2] [2] (fun x=>[(1,.int .i64 x.1),(5,.int .i64 x.2)]) (fun x=>[]) [] h ?_ ?_<;>first
 | (clear h;intro x Qn K hK2 h;unfold mc_44;replace h:=tY h;refine tB ?_)
  |(clear h;(try refine tB ?_);exact tU0;done))
 | (refine hK1 _ ?_;exact tU;done)
 | (refine hK2 _ ?_;(try refine tB ?_);refine ⟨_,h,?_⟩;exact tU0;done)
 | (refine bfork (fun hc=>?_) (fun hc=>?_))
 | (refine tE ?_;(first|rw [M.lok_compU]|rw [M.lokD_compU]);refine tB ?_)
 | (refine tA ?_)
 | fail)
theorem WG_n:∀n,(∀{n_:GNode} {have_:Int} {y:Int},FR_n n n_ have_=some y→ACall Tryz.prog 43 [GNode.v n_,.int .i64 have_] [] (fun r H=>r=.int .i64 y∧H=[]))
 | 0=>fun hy=>(by simp only [FR_n] at hy;cases hy)
 | n+1=>by
  have ih_ref05_count:=@WG_n n
  exact fun hy=>Wq_n ih_ref05_count _ _ (Q:=(·=_)) ⟨_,hy,rfl⟩ fun|_,rfl=>⟨rfl,rfl⟩
theorem W_n:∀{n_:GNode} {have_:Int} {y:Int},F_n n_ have_=some y→ACall Tryz.prog 43 [GNode.v n_,.int .i64 have_] [] (fun r H=>r=.int .i64 y∧H=[]):=fun hy=>by
 obtain ⟨n,hn⟩:=lim_inv hy
 exact (WG_n n) hn
noncomputable def F_1v (n_:GNode):Option Int :=
 (F_n n_ 0).bind fun y2=>some (min y2 201)
def mc_1v:MC :=
 (sR [mo (.box (.t 0)) 1,
 oC 0 2]
 (sR [mo (.ld (some 5) (.t 1)) 3,
 mo (.call (.f 43) [(.t 3),(cI 0)] [] []) 4,
 mo (.mm false (.t 4) (cI 201)) 5,
 oV 5 2]
 .ret))
theorem Wq_1v {n_:GNode}:Cn Tryz.prog 15 [GNode.v n_] [] (F_1v n_) (fun z=>.int .i64 z) (fun z=>[]):=fun Q Q' h hQ=>by
 refine acallM mc_1v [] [] [.t 2] Tryz.func15 fun M=>?_
 unfold F_1v at h
 unfold mc_1v
 replace h:=tY h
 refine tB ?_
 repeat' (first
 | (exact tZ)
 | ((first|refine oblg h ?_|refine roomG h ?_|refine fork h ?_ ?_|refine forkS h ?_ ?_)<;>clear h<;>intro hc h)
 | (obtain ⟨y,hy,h⟩:=h;have hw:=W_n hy;replace hw:=tY hw;(first|refine M.sC hw ?_|refine M.sD hw ?_);clear hw hy;refine tB ?_)
 | (refine tE ?_;(first|rw [M.lok_compU]|rw [M.lokD_compU]);refine tB ?_)
 | (refine tA ?_)
 | fail)
noncomputable def FR_o:Nat→GNode→Option Int
 | 0,_=>none
 | n+1,n_ =>
 (loop (fun (x17:Int×Int)=>(bif decide (x17.2<(n_.Kids.length:Int)) then chk (inb x17.2 n_.Kids.length) ((FR_o n (n_.Kids.getD (x17.2).toNat default)).bind fun y21=>chk (in64 (x17.2+1)) (some (.nx ((max x17.1 y21),(x17.2+1))))) else some (.ex x17.1):Option (Fl (Int×Int) Int))) (0,0)).bind fun r22=>chk (in64 (r22+1)) (some (r22+1))
noncomputable def F_o (n_:GNode):Option Int:=lim fun n=>FR_o n n_
@[irreducible] def mc_45:MC :=
 (.seq (sR [oV 4 5,
 oF 2 1 6,
 oL 6 7,
 mo (.len false (.t 7)) 8,
 mo (.bin false .lss (.t 5) (.t 8)) 9]
 (.cond (.t 9)
 .skip
 (.exit 0)))
 (.seq (.block 1
 (.reg [oV 3 12,
 oF 2 1 13,
 oL 13 14,
 oV 4 15,
 mo (.iad 5 (.t 14) (.t 15)) 16,
 mo (.ld (some 5) (.t 16)) 17,
 mo (.call (.f 40) [(.t 17)] [] []) 18,
 mo (.mm true (.t 12) (.t 18)) 19,
 oV 19 3]))
 (.note (.gc [1,3,4]) (.reg [oV 4 10,
 mo (.bin true .add (.t 10) (cI 1)) 11,
 oV 11 4]))))
def mc_o:MC :=
 (sR [mo (.box (.t 0)) 1,
 oC 0 2]
 (sR [oC 0 3]
 (.seq (sR [oC 0 4]
 (.block 0
 (.loop mc_45)))
 (sR [oV 3 20,
 mo (.bin true .add (.t 20) (cI 1)) 21,
 oV 21 2]
 .ret))))
theorem Wq_o {n:Nat} (ih_ref05_depth:∀{n_:GNode} {y:Int},FR_o n n_=some y→ACall Tryz.prog 40 [GNode.v n_] [] (fun r H=>r=.int .i64 y∧H=[])) (n_:GNode) {Q:Int→Prop} {Q':V→Heap→Prop} (h:Ok (FR_o (n+1) n_) Q) (hQ:∀z,Q z→Q' (.int .i64 z) []):ACall Tryz.prog 40 [GNode.v n_] [] Q':=by
 refine acallM mc_o [] [] [.t 2] Tryz.func40 fun M=>?_
 simp only [FR_o] at h
 unfold mc_o
 replace h:=tY h
 refine tB ?_
 repeat' (first
 | (exact tZ)
 | ((first|refine oblg h ?_|refine roomG h ?_|refine fork h ?_ ?_|refine forkS h ?_ ?_)<;>clear h<;>intro hc h)
 | (obtain ⟨y,hy,h⟩:=h;have hw:=ih_ref05_depth hy;replace hw:=tY hw;(first|refine M.sC hw ?_|refine M.sD hw ?_);clear hw hy;refine tB ?_)
 | (refine M.wh1 (b:=mc_45) [1] [1] (fun x=>[(3,.int .i64 x.1),(4,.int .i64 x.2)]) (fun x=>[]) [] h ?_ ?_<;>first
 | (clear h;intro x Qn K hK1 h;unfold mc_45;replace h:=tY h;refine tB ?_)
  |(clear h;(try refine tB ?_);exact tU0;done))
 | (refine hK1 _ ?_;(try refine tB ?_);refine ⟨_,h,?_⟩;exact tU0;done)
 | (refine tE ?_;(first|rw [M.lok_compU]|rw [M.lokD_compU]);refine tB ?_)
 | (refine tA ?_)
 | fail)
theorem WG_o:∀n,(∀{n_:GNode} {y:Int},FR_o n n_=some y→ACall Tryz.prog 40 [GNode.v n_] [] (fun r H=>r=.int .i64 y∧H=[]))
 | 0=>fun hy=>(by simp only [FR_o] at hy;cases hy)
 | n+1=>by
  have ih_ref05_depth:=@WG_o n
  exact fun hy=>Wq_o ih_ref05_depth _ (Q:=(·=_)) ⟨_,hy,rfl⟩ fun|_,rfl=>⟨rfl,rfl⟩
theorem W_o:∀{n_:GNode} {y:Int},F_o n_=some y→ACall Tryz.prog 40 [GNode.v n_] [] (fun r H=>r=.int .i64 y∧H=[]):=fun hy=>by
 obtain ⟨n,hn⟩:=lim_inv hy
 exact (WG_o n) hn
noncomputable def F_2e (l_:List GRange) (x19:Int):Option (Fl Int (Sum Unit Bool)) :=
 bif decide (x19<(l_.length:Int)) then jn (α:=Fl (Int×Bool×Bool×Bool) Bool) (chk (inb x19 l_.length) (chk (inb x19 l_.length) (bif decide ((((l_.getD (x19).toNat default).High).toNat:Int)<(((l_.getD (x19).toNat default).Low).toNat:Int)) then some (.ex false) else bif decide (0<x19) then chk (inb x19 l_.length) (chk (in64 (x19 - 1)) (chk (inb (x19 - 1) l_.length) (chk (in64 ((((l_.getD ((x19 - 1)).toNat default).High).toNat:Int)+2)) (bif decide ((((l_.getD (x19).toNat default).Low).toNat:Int)<((((l_.getD ((x19 - 1)).toNat default).High).toNat:Int)+2)) then some (.ex false) else some (.nx (x19,decide (0<x19),true,decide ((((l_.getD (x19).toNat default).Low).toNat:Int)<((((l_.getD ((x19 - 1)).toNat default).High).toNat:Int)+2)))))))) else some (.nx (x19,decide (0<x19),false,false))))) fun o=>o.elim (fun j22=>chk (in64 (x19+1)) (some (.nx (x19+1)))) (fun r23=>some (.ex (.inr r23))) else some (.ex (.inl ()))
noncomputable def F_1w (l_:List GRange):Option Bool :=
 (loop (F_2e l_) 0).bind fun r24=>Sum.elim (fun u25=>some (decide (0<(l_.length:Int)))) (fun u26=>some u26) r24
@[irreducible] def mc_46:MC :=
 (.reg [oV 3 8,
 mo (.bin true .add (.t 8) (cI 1)) 9,
 oV 9 3])
@[irreducible] def mc_2e:MC :=
 (.seq (sR [oV 3 4,
 oV 0 5,
 mo (.len false (.t 5)) 6,
 mo (.bin false .lss (.t 4) (.t 6)) 7]
 (.cond (.t 7)
 .skip
 (.exit 0)))
 (.cut (.block 1
 (.seq (.regD [oV 0 10,
 oV 3 11,
 mo (.iad 2 (.t 10) (.t 11)) 12,
 oF 0 12 13,
 oL 13 14,
 oV 0 15,
 oV 3 16,
 mo (.iad 2 (.t 15) (.t 16)) 17,
 oF 1 17 18,
 oL 18 19,
 mo (.bin false .gtr (.t 14) (.t 19)) 20,
 oV 20 21,
 gF 21 22 (.mv (.t 3)),
 gF 21 23 (.bin false .gtr (.t 22) (cI 0)),
 gF 21 24 (.mv (.t 23)),
 gT 24 25 (.mv (.t 0)),
 gT 24 26 (.mv (.t 3)),
 gT 24 27 (.iad 2 (.t 25) (.t 26)),
 gT 24 28 (.fad 0 (.t 27)),
 gT 24 29 (.ld none (.t 28)),
 gT 24 30 (.i2i true .i64 (.t 29)),
 gT 24 31 (.mv (.t 0)),
 gT 24 32 (.mv (.t 3)),
 gT 24 33 (.bin true .sub (.t 32) (cI 1)),
 gT 24 34 (.iad 2 (.t 31) (.t 33)),
 gT 24 35 (.fad 1 (.t 34)),
 gT 24 36 (.ld none (.t 35)),
 gT 24 37 (.i2i true .i64 (.t 36)),
 gT 24 38 (.bin true .add (.t 37) (cI 2)),
 gT 24 39 (.bin false .lss (.t 30) (.t 38)),
 gF 21 40 (.pick (.t 24) (.t 39) (.c (.bool false))),
 mo (.pick (.t 21) (.c (.bool true)) (.t 40)) 41]
 [[],[],[0,1],[2],[3],[],[],[5,6],[7],[8],[4,9],[10],[11],[12,11],[13,11,11],[14],[14],[15,16,14],[17,14],[18,14],[19,14],[14],[14],[22,14],[21,23,14],[24,14],[25,14],[26,14],[27,14],[20,28,14],[14,29,11],[11,30]]
 [[],[],[0,1],[0,1,2],[0,1,2,3],[],[],[5,6],[5,6,7],[5,6,7,8],[0,1,2,3,4,5,6,7,8,9],[0,1,2,3,4,5,6,7,8,9,10],[0,1,2,3,4,5,6,7,8,9,10,11],[0,1,2,3,4,5,6,7,8,9,10,11,12],[0,1,2,3,4,5,6,7,8,9,10,11,12,13],[0,1,2,3,4,5,6,7,8,9,10,11,12,13,14],[0,1,2,3,4,5,6,7,8,9,10,11,12,13,14],[0,1,2,3,4,5,6,7,8,9,10,11,12,13,14,15,16],[0,1,2,3,4,5,6,7,8,9,10,11,12,13,14,15,16,17],[0,1,2,3,4,5,6,7,8,9,10,11,12,13,14,15,16,17,18],[0,1,2,3,4,5,6,7,8,9,10,11,12,13,14,15,16,17,18,19],[0,1,2,3,4,5,6,7,8,9,10,11,12,13,14],[0,1,2,3,4,5,6,7,8,9,10,11,12,13,14],[0,1,2,3,4,5,6,7,8,9,10,11,12,13,14,22],[0,1,2,3,4,5,6,7,8,9,10,11,12,13,14,21,22,23],[0,1,2,3,4,5,6,7,8,9,10,11,12,13,14,21,22,23,24],[0,1,2,3,4,5,6,7,8,9,10,11,12,13,14,21,22,23,24,25],[0,1,2,3,4,5,6,7,8,9,10,11,12,13,14,21,22,23,24,25,26],[0,1,2,3,4,5,6,7,8,9,10,11,12,13,14,21,22,23,24,25,26,27],[0,1,2,3,4,5,6,7,8,9,10,11,12,13,14,15,16,17,18,19,20,21,22,23,24,25,26,27,28],[0,1,2,3,4,5,6,7,8,9,10,11,12,13,14,15,16,17,18,19,20,21,22,23,24,25,26,27,28,29],[0,1,2,3,4,5,6,7,8,9,10,11,12,13,14,15,16,17,18,19,20,21,22,23,24,25,26,27,28,29,30]])
 (.cond (.t 41)
 (sR [mo (.mv (.c (.bool false))) 2]
 .ret)
 .skip)))
 mc_46))
def mc_1w:MC :=
 (sR [mo (.mv (.c (.bool false))) 2]
 (.seq (sR [oC 0 3]
 (.block 0
 (.loop mc_2e)))
 (sR [oV 0 42,
 mo (.len false (.t 42)) 43,
 mo (.bin false .gtr (.t 43) (cI 0)) 44,
 oV 44 2]
 .ret)))
theorem Wq_1w {l_:List GRange}:Cn Tryz.prog 60 [.sl (l_.map GRange.v)] [] (F_1w l_) (fun z=>.bool z) (fun z=>[]):=fun Q Q' h hQ=>by
 refine acallM mc_1w [] [] [.t 2] Tryz.func60 fun M=>?_
 unfold F_1w at h
 unfold mc_1w
 replace h:=tY h
 refine tB ?_
 repeat' (first
 | (exact tZ)
 | ((first|refine oblg h ?_|refine roomG h ?_|refine fork h ?_ ?_|refine forkS h ?_ ?_)<;>clear h<;>intro hc h)
 | (refine M.jnE (b:=mc_46) [0,3] [] (fun y=>[(22,.int .i64 y.1),(23,.bool y.2.1),(24,.bool y.2.2.1),(40,.bool y.2.2.2)]) (fun y=>[]) [] h ?_ ?_<;>first
 | (clear h;intro Qn K hK1 h;replace h:=tY h;refine tB ?_)
  |(clear h;intro y h;unfold mc_46;replace h:=tY h;refine tB ?_))
 | (refine M.wh1 (b:=mc_2e) [0] [] (fun x=>[(3,.int .i64 x)]) (fun x=>[]) [] h ?_ ?_<;>first
 | (clear h;intro x Qn K hK2 h;unfold F_2e at h;unfold mc_2e;replace h:=tY h;refine tB ?_)
  |(clear h;(try refine tB ?_);exact tU0;done))
 | ((first|refine hK1 _ ?_|refine hK2 _ ?_);(try refine tB ?_);refine ⟨_,h,?_⟩;exact tU0;done)
 | (refine tE ?_;(first|rw [M.lok_compU]|rw [M.lokD_compU]);refine tB ?_)
 | (refine tA ?_)
 | fail)
noncomputable def F_2f (n_:GNode) (x9:Int):Option (Fl Int (Sum Unit Bool)) :=
 bif decide (x9<(n_.Kids.length:Int)) then chk (inb x9 n_.Kids.length) (bif decide ((n_.Kids.getD (x9).toNat default).Op=n_.Op) then some (.ex (.inr false)) else chk (in64 (x9+1)) (some (.nx (x9+1)))) else some (.ex (.inl ()))
noncomputable def F_1x (n_:GNode):Option Bool :=
 (loop (F_2f n_) 0).bind fun r10=>Sum.elim (fun u11=>grp ((decide (2≤(n_.Kids.length:Int))&&decide ((n_.Ranges.length:Int)=0))) fun b16=>grp ((b16&&decide (n_.Min=0))) fun b17=>grp ((b17&&decide (n_.Max=0))) fun b18=>some b18) (fun u12=>some u12) r10
@[irreducible] def mc_2f:MC :=
 (.seq (sR [oV 3 4,
 oF 2 1 5,
 oL 5 6,
 mo (.len false (.t 6)) 7,
 mo (.bin false .lss (.t 4) (.t 7)) 8]
 (.cond (.t 8)
 .skip
 (.exit 0)))
 (.seq (.block 1
 (.seq (.regD [oF 2 1 11,
 oL 11 12,
 oV 3 13,
 mo (.iad 5 (.t 12) (.t 13)) 14,
 oF 0 14 15,
 oL 15 16,
 oF 0 1 17,
 oL 17 18,
 mo (.bin false .eql (.t 16) (.t 18)) 19]
 [[],[0],[],[1,2],[3],[4],[],[6],[5,7]]
 [[],[0],[],[0,1,2],[0,1,2,3],[0,1,2,3,4],[],[6],[0,1,2,3,4,5,6,7]])
 (.cond (.t 19)
 (sR [mo (.mv (.c (.bool false))) 2]
 .ret)
 .skip)))
 (.note (.gc [1,3,25,26,27,28,31,32,33,36,37,38]) (.reg [oV 3 9,
 mo (.bin true .add (.t 9) (cI 1)) 10,
 oV 10 3]))))
@[irreducible] def mg_47:List MOp:=[gT 24 25 (.fad 1 (.t 1)),
 gT 24 26 (.ld none (.t 25)),
 gT 24 27 (.len false (.t 26)),
 gT 24 28 (.bin false .eql (.t 27) (cI 0)),
 mo (.pick (.t 24) (.t 28) (.c (.bool false))) 29]
@[irreducible] def mg_48:List MOp:=[gT 30 31 (.fad 3 (.t 1)),
 gT 30 32 (.ld none (.t 31)),
 gT 30 33 (.bin false .eql (.t 32) (cI 0)),
 mo (.pick (.t 30) (.t 33) (.c (.bool false))) 34]
@[irreducible] def mg_49:List MOp:=[gT 35 36 (.fad 4 (.t 1)),
 gT 35 37 (.ld none (.t 36)),
 gT 35 38 (.bin false .eql (.t 37) (cI 0)),
 mo (.pick (.t 35) (.t 38) (.c (.bool false))) 39]
def mc_1x:MC :=
 (sR [mo (.box (.t 0)) 1,
 mo (.mv (.c (.bool false))) 2]
 (.seq (sR [oC 0 3]
 (.block 0
 (.loop mc_2f)))
 (.seq (.regI [.op (oF 2 1 20),
 .op (oL 20 21),
 .op (mo (.len false (.t 21)) 22),
 .op (mo (.bin false .geq (.t 22) (cI 2)) 23),
 .op (oV 23 24),
 .grp mg_47,
 .op (oV 29 30),
 .grp mg_48,
 .op (oV 34 35),
 .grp mg_49,
 .op (oV 39 2)])
 .ret)))
theorem Wq_1x {n_:GNode}:Cn Tryz.prog 61 [GNode.v n_] [] (F_1x n_) (fun z=>.bool z) (fun z=>[]):=fun Q Q' h hQ=>by
 refine acallM mc_1x [] [] [.t 2] Tryz.func61 fun M=>?_
 unfold F_1x at h
 unfold mc_1x
 replace h:=tY h
 refine tB ?_
 repeat' (first
 | (exact tZ)
 | ((first|refine oblg h ?_|refine roomG h ?_|refine fork h ?_ ?_|refine forkS h ?_ ?_)<;>clear h<;>intro hc h)
 | (refine M.wh1 (b:=mc_2f) [1] [1] (fun x=>[(3,.int .i64 x)]) (fun x=>[]) [] h ?_ ?_<;>first
 | (clear h;intro x Qn K hK1 h;unfold F_2f at h;unfold mc_2f;replace h:=tY h;refine tB ?_)
  |(clear h;(try refine tB ?_);exact tU0;done))
 | (refine M.gv1 (ms:=mg_49) 39 [36,37,38] h ?_ ?_<;>first
 | (clear h;intro K hK2;unfold mg_49;refine tB ?_)
 | (clear h;intro b h;replace h:=tY h;refine tB ?_))
 | (refine M.gv1 (ms:=mg_48) 34 [31,32,33] h ?_ ?_<;>first
 | (clear h;intro K hK3;unfold mg_48;refine tB ?_)
 | (clear h;intro b h;replace h:=tY h;refine tB ?_))
 | (refine M.gv1 (ms:=mg_47) 29 [25,26,27,28] h ?_ ?_<;>first
 | (clear h;intro K hK4;unfold mg_47;refine tB ?_)
 | (clear h;intro b h;replace h:=tY h;refine tB ?_))
 | (refine hK1 _ ?_;(try refine tB ?_);refine ⟨_,h,?_⟩;exact tU0;done)
 | ((first|refine hK2 _ ?_|refine hK3 _ ?_|refine hK4 _ ?_);exact tU;done)
 | (refine bfork (fun hc=>?_) (fun hc=>?_))
 | (refine tE ?_;(first|rw [M.lok_compU]|rw [M.lokD_compU]);refine tB ?_)
 | (refine tA ?_)
 | fail)
noncomputable def FR_p:Nat→GNode→Option Bool
 | 0,_=>none
 | n+1,n_ =>
 jn (α:=Bool) (bif decide (n_.Op=1) then (F_1w n_.Ranges).bind fun y14=>grp ((y14&&decide ((n_.Kids.length:Int)=0))) fun b15=>grp ((b15&&decide (n_.Min=0))) fun b16=>grp ((b16&&decide (n_.Max=0))) fun b17=>some b17 else jn (α:=Bool) (bif decide (n_.Op=2) then some true else some (decide (n_.Op=3))) fun j18=>bif j18 then (F_1x n_).bind fun y19=>some y19 else bif decide (n_.Op=4) then grp ((decide ((n_.Kids.length:Int)=1)&&decide ((n_.Ranges.length:Int)=0))) fun b20=>grp ((b20&&decide (0≤n_.Min))) fun b21=>grp ((b21&&decide (1≤n_.Max))) fun b22=>grp ((b22&&decide (n_.Min≤n_.Max))) fun b23=>grp ((b23&&decide (n_.Max≤64))) fun b24=>grp ((b24&&((!decide (n_.Min=1))||(!decide (n_.Max=1))))) fun b25=>some b25 else some false) fun j13=>(loop (fun (x62:Bool×Int)=>(grp ((decide (x62.2<(n_.Kids.length:Int))&&x62.1)) fun b72=>bif b72 then chk (inb x62.2 n_.Kids.length) ((FR_p n (n_.Kids.getD (x62.2).toNat default)).bind fun y74=>chk (in64 (x62.2+1)) (some (.nx (y74,(x62.2+1))))) else some (.ex x62.1):Option (Fl (Bool×Int) Bool))) (j13,0)).bind fun r75=>some r75
noncomputable def F_p (n_:GNode):Option Bool:=lim fun n=>FR_p n n_
@[irreducible] def mg_4a:List MOp:=[gT 12 13 (.fad 2 (.t 1)),
 gT 12 14 (.ld none (.t 13)),
 gT 12 15 (.len false (.t 14)),
 gT 12 16 (.bin false .eql (.t 15) (cI 0)),
 mo (.pick (.t 12) (.t 16) (.c (.bool false))) 17]
@[irreducible] def mg_4b:List MOp:=[gT 18 19 (.fad 3 (.t 1)),
 gT 18 20 (.ld none (.t 19)),
 gT 18 21 (.bin false .eql (.t 20) (cI 0)),
 mo (.pick (.t 18) (.t 21) (.c (.bool false))) 22]
@[irreducible] def mg_4c:List MOp:=[gT 23 24 (.fad 4 (.t 1)),
 gT 23 25 (.ld none (.t 24)),
 gT 23 26 (.bin false .eql (.t 25) (cI 0)),
 mo (.pick (.t 23) (.t 26) (.c (.bool false))) 27]
@[irreducible] def mg_4d:List MOp:=[gT 39 40 (.fad 1 (.t 1)),
 gT 39 41 (.ld none (.t 40)),
 gT 39 42 (.len false (.t 41)),
 gT 39 43 (.bin false .eql (.t 42) (cI 0)),
 mo (.pick (.t 39) (.t 43) (.c (.bool false))) 44]
@[irreducible] def mg_4e:List MOp:=[gT 45 46 (.fad 3 (.t 1)),
 gT 45 47 (.ld none (.t 46)),
 gT 45 48 (.bin false .geq (.t 47) (cI 0)),
 mo (.pick (.t 45) (.t 48) (.c (.bool false))) 49]
@[irreducible] def mg_4f:List MOp:=[gT 50 51 (.fad 4 (.t 1)),
 gT 50 52 (.ld none (.t 51)),
 gT 50 53 (.bin false .geq (.t 52) (cI 1)),
 mo (.pick (.t 50) (.t 53) (.c (.bool false))) 54]
@[irreducible] def mg_4g:List MOp:=[gT 55 56 (.fad 4 (.t 1)),
 gT 55 57 (.ld none (.t 56)),
 gT 55 58 (.fad 3 (.t 1)),
 gT 55 59 (.ld none (.t 58)),
 gT 55 60 (.bin false .geq (.t 57) (.t 59)),
 mo (.pick (.t 55) (.t 60) (.c (.bool false))) 61]
@[irreducible] def mg_4h:List MOp:=[gT 62 63 (.fad 4 (.t 1)),
 gT 62 64 (.ld none (.t 63)),
 gT 62 65 (.bin false .leq (.t 64) (cI 64)),
 mo (.pick (.t 62) (.t 65) (.c (.bool false))) 66]
@[irreducible] def mg_4i:List MOp:=[gT 67 68 (.fad 3 (.t 1)),
 gT 67 69 (.ld none (.t 68)),
 gT 67 70 (.bin false .neq (.t 69) (cI 1)),
 gT 67 71 (.mv (.t 70)),
 gF 71 72 (.fad 4 (.t 1)),
 gF 71 73 (.ld none (.t 72)),
 gF 71 74 (.bin false .neq (.t 73) (cI 1)),
 gT 67 75 (.pick (.t 71) (.c (.bool true)) (.t 74)),
 mo (.pick (.t 67) (.t 75) (.c (.bool false))) 76]
@[irreducible] def mc_4j:MC :=
 (.cond (.t 28)
 (.reg [mo (.ld (some 5) (.t 1)) 31,
 mo (.call (.f 61) [(.t 31)] [] []) 32,
 oV 32 3])
 (sR [mo (.bin false .eql (.t 6) (cI 4)) 34,
 oV 34 33]
 (.cond (.t 33)
 (.regI [.op (oF 2 1 35),
 .op (oL 35 36),
 .op (mo (.len false (.t 36)) 37),
 .op (mo (.bin false .eql (.t 37) (cI 1)) 38),
 .op (oV 38 39),
 .grp mg_4d,
 .op (oV 44 45),
 .grp mg_4e,
 .op (oV 49 50),
 .grp mg_4f,
 .op (oV 54 55),
 .grp mg_4g,
 .op (oV 61 62),
 .grp mg_4h,
 .op (oV 66 67),
 .grp mg_4i,
 .op (oV 76 3)])
 .skip)))
@[irreducible] def mg_4k:List MOp:=[gT 82 83 (.mv (.t 3)),
 mo (.pick (.t 82) (.t 83) (.c (.bool false))) 84]
@[irreducible] def mc_4l:MC :=
 (.seq (.seq (.regI [.op (oV 4 77),
 .op (oF 2 1 78),
 .op (oL 78 79),
 .op (mo (.len false (.t 79)) 80),
 .op (mo (.bin false .lss (.t 77) (.t 80)) 81),
 .op (oV 81 82),
 .grp mg_4k])
 (.cond (.t 84)
 .skip
 (.exit 1)))
 (.seq (.block 2
 (.note (.gc [1,4,83]) (.reg [oF 2 1 87,
 oL 87 88,
 oV 4 89,
 mo (.iad 5 (.t 88) (.t 89)) 90,
 mo (.ld (some 5) (.t 90)) 91,
 mo (.call (.f 41) [(.t 91)] [] []) 92,
 oV 92 3])))
 (.reg [oV 4 85,
 mo (.bin true .add (.t 85) (cI 1)) 86,
 oV 86 4])))
@[irreducible] def mc_4m:MC :=
 (.seq (sR [oC 0 4]
 (.block 1
 (.loop mc_4l)))
 (sR [oV 3 93,
 oV 93 2]
 .ret))
def mc_p:MC :=
 (sR [mo (.box (.t 0)) 1,
 mo (.mv (.c (.bool false))) 2]
 (sR [mo (.mv (.c (.bool false))) 3]
 (.cut (sR [oF 0 1 5,
 oL 5 6]
 (.block 0
 (sR [mo (.bin false .eql (.t 6) (cI 1)) 8,
 oV 8 7]
 (.cond (.t 7)
 (.regI [.op (oF 1 1 9),
 .op (oL 9 10),
 .op (mo (.call (.f 60) [(.t 10)] [] []) 11),
 .op (oV 11 12),
 .grp mg_4a,
 .op (oV 17 18),
 .grp mg_4b,
 .op (oV 22 23),
 .grp mg_4c,
 .op (oV 27 3)])
 (.cut (sR [mo (.bin false .eql (.t 6) (cI 2)) 29,
 oV 29 28]
 (.cond (.t 28)
 .skip
 (.reg [mo (.bin false .eql (.t 6) (cI 3)) 30,
 oV 30 28])))
 mc_4j)))))
 mc_4m)))
theorem Wq_p {n:Nat} (ih_ref05_right:∀{n_:GNode} {y:Bool},FR_p n n_=some y→ACall Tryz.prog 41 [GNode.v n_] [] (fun r H=>r=.bool y∧H=[])) (n_:GNode) {Q:Bool→Prop} {Q':V→Heap→Prop} (h:Ok (FR_p (n+1) n_) Q) (hQ:∀z,Q z→Q' (.bool z) []):ACall Tryz.prog 41 [GNode.v n_] [] Q':=by
 refine acallM mc_p [] [] [.t 2] Tryz.func41 fun M=>?_
 simp only [FR_p] at h
 unfold mc_p
 replace h:=tY h
 refine tB ?_
 repeat' (first
 | (exact tZ)
 | ((first|refine oblg h ?_|refine roomG h ?_|refine fork h ?_ ?_|refine forkS h ?_ ?_)<;>clear h<;>intro hc h)
 | (obtain ⟨y,hy,h⟩:=h;(first|with_reducible first|have hw:=Wq_1w.w hy|have hw:=Wq_1x.w hy|have hw:=ih_ref05_right hy);replace hw:=tY hw;(first|refine M.sC hw ?_|refine M.sD hw ?_);clear hw hy;refine tB ?_)
 | (refine M.gv1 (ms:=mg_4c) 27 [24,25,26] h ?_ ?_<;>first
 | (clear h;intro K hK1;unfold mg_4c;refine tB ?_)
 | (clear h;intro b h;replace h:=tY h;refine tB ?_))
 | (refine M.gv1 (ms:=mg_4b) 22 [19,20,21] h ?_ ?_<;>first
 | (clear h;intro K hK2;unfold mg_4b;refine tB ?_)
 | (clear h;intro b h;replace h:=tY h;refine tB ?_))
 | (refine M.gv1 (ms:=mg_4a) 17 [13,14,15,16] h ?_ ?_<;>first
 | (clear h;intro K hK3;unfold mg_4a;refine tB ?_)
 | (clear h;intro b h;replace h:=tY h;refine tB ?_))
 | (refine M.gv1 (ms:=mg_4i) 76 [68,69,70,71,72,73,74,75] h ?_ ?_<;>first
 | (clear h;intro K hK4;unfold mg_4i;refine tB ?_)
 | (clear h;intro b h;replace h:=tY h;refine tB ?_))
 | (refine M.gv1 (ms:=mg_4h) 66 [63,64,65] h ?_ ?_<;>first
 | (clear h;intro K hK5;unfold mg_4h;refine tB ?_)
 | (clear h;intro b h;replace h:=tY h;refine tB ?_))
 | (refine M.gv1 (ms:=mg_4g) 61 [56,57,58,59,60] h ?_ ?_<;>first
 | (clear h;intro K hK6;unfold mg_4g;refine tB ?_)
 | (clear h;intro b h;replace h:=tY h;refine tB ?_))
 | (refine M.gv1 (ms:=mg_4f) 54 [51,52,53] h ?_ ?_<;>first
 | (clear h;intro K hK7;unfold mg_4f;refine tB ?_)
 | (clear h;intro b h;replace h:=tY h;refine tB ?_))
 | (refine M.gv1 (ms:=mg_4e) 49 [46,47,48] h ?_ ?_<;>first
 | (clear h;intro K hK8;unfold mg_4e;refine tB ?_)
 | (clear h;intro b h;replace h:=tY h;refine tB ?_))
 | (refine M.gv1 (ms:=mg_4d) 44 [40,41,42,43] h ?_ ?_<;>first
 | (clear h;intro K hK9;unfold mg_4d;refine tB ?_)
 | (clear h;intro b h;replace h:=tY h;refine tB ?_))
 | (refine M.jn1 (b:=mc_4j) [1,3,6] [1] (fun y=>[(28,.bool y)]) (fun y=>[]) [] h ?_ ?_<;>first
 | (clear h;intro Qn K hK10 h;replace h:=tY h;refine tB ?_)
  |(clear h;intro y h;unfold mc_4j;replace h:=tY h;refine tB ?_))
 | (refine M.gv1 (ms:=mg_4k) 84 [83] h ?_ ?_<;>first
 | (clear h;intro K hK11;unfold mg_4k;refine tB ?_)
 | (clear h;intro b h;replace h:=tY h;refine tB ?_))
 | (refine M.wh1 (b:=mc_4l) [1] [1] (fun x=>[(3,.bool x.1),(4,.int .i64 x.2)]) (fun x=>[]) [] h ?_ ?_<;>first
 | (clear h;intro x Qn K hK12 h;unfold mc_4l;replace h:=tY h;refine tB ?_)
  |(clear h;(try refine tB ?_);exact tU0;done))
 | (refine M.jn1 (b:=mc_4m) [1] [1] (fun y=>[(3,.bool y)]) (fun y=>[]) [] h ?_ ?_<;>first
 | (clear h;intro Qn K hK13 h;replace h:=tY h;refine tB ?_)
  |(clear h;intro y h;unfold mc_4m;replace h:=tY h;refine tB ?_))
 | ((first|refine hK1 _ ?_|refine hK2 _ ?_|refine hK3 _ ?_|refine hK4 _ ?_|refine hK5 _ ?_|refine hK6 _ ?_|refine hK7 _ ?_|refine hK8 _ ?_|refine hK9 _ ?_|refine hK11 _ ?_);exact tU;done)
 | ((first|refine hK10 _ ?_|refine hK12 _ ?_|refine hK13 _ ?_);(try refine tB ?_);refine ⟨_,h,?_⟩;exact tU0;done)
 | (refine bfork (fun hc=>?_) (fun hc=>?_))
 | (refine tE ?_;(first|rw [M.lok_compU]|rw [M.lokD_compU]);refine tB ?_)
 | (refine tA ?_)
 | fail)
theorem WG_p:∀n,(∀{n_:GNode} {y:Bool},FR_p n n_=some y→ACall Tryz.prog 41 [GNode.v n_] [] (fun r H=>r=.bool y∧H=[]))
 | 0=>fun hy=>(by simp only [FR_p] at hy;cases hy)
 | n+1=>by
  have ih_ref05_right:=@WG_p n
  exact fun hy=>Wq_p ih_ref05_right _ (Q:=(·=_)) ⟨_,hy,rfl⟩ fun|_,rfl=>⟨rfl,rfl⟩
theorem W_p:∀{n_:GNode} {y:Bool},F_p n_=some y→ACall Tryz.prog 41 [GNode.v n_] [] (fun r H=>r=.bool y∧H=[]):=fun hy=>by
 obtain ⟨n,hn⟩:=lim_inv hy
 exact (WG_p n) hn
noncomputable def FR_e:Nat→GNode→Bool→Option Int
 | 0,_,_=>none
 | n+1,n_,most_ =>
 jn (α:=Fl Int Int) (bif decide (n_.Op=1) then some (.ex 1) else bif decide (n_.Op=2) then (loop (fun (x47:Int×Int)=>(bif decide (x47.2<(n_.Kids.length:Int)) then chk (inb x47.2 n_.Kids.length) ((FR_e n (n_.Kids.getD (x47.2).toNat default) most_).bind fun y51=>chk (in64 (x47.1+y51)) (chk (in64 (x47.2+1)) (some (.nx ((x47.1+y51),(x47.2+1)))))) else some (.ex x47.1):Option (Fl (Int×Int) Int))) (0,0)).bind fun r52=>some (.nx r52) else bif decide (n_.Op=3) then chk (inb 0 n_.Kids.length) ((FR_e n (n_.Kids.getD 0 default) most_).bind fun y54=>(loop (fun (x71:Int×Int)=>(bif decide (x71.2<(n_.Kids.length:Int)) then jn (α:=Int) (chk (inb x71.2 n_.Kids.length) ((FR_e n (n_.Kids.getD (x71.2).toNat default) most_).bind fun y87=>grp ((most_&&decide (x71.1<y87))) fun b90=>grp ((b90||((!most_)&&decide (y87<x71.1)))) fun b91=>bif b91 then some y87 else some x71.1)) fun j85=>chk (in64 (x71.2+1)) (some (.nx (j85,(x71.2+1)))) else some (.ex x71.1):Option (Fl (Int×Int) Int))) (y54,1)).bind fun r92=>some (.nx r92)) else jn (α:=Int) (bif most_ then some n_.Max else some n_.Min) fun j93=>chk (inb 0 n_.Kids.length) ((FR_e n (n_.Kids.getD 0 default) most_).bind fun y94=>chk (in64 (j93*y94)) (some (.nx (j93*y94))))) fun o=>o.elim (fun j40=>some (min j40 1025)) (fun r95=>some r95)
noncomputable def F_e (n_:GNode) (most_:Bool):Option Int:=lim fun n=>FR_e n n_ most_
@[irreducible] def mc_4n:MC :=
 (.seq (sR [oV 6 29,
 oF 2 2 30,
 oL 30 31,
 mo (.len false (.t 31)) 32,
 mo (.bin false .lss (.t 29) (.t 32)) 33]
 (.cond (.t 33)
 .skip
 (.exit 1)))
 (.seq (.block 2
 (.reg [oV 5 36,
 oF 2 2 37,
 oL 37 38,
 oV 6 39,
 mo (.iad 5 (.t 38) (.t 39)) 40,
 mo (.ld (some 5) (.t 40)) 41,
 oV 1 42,
 mo (.call (.f 42) [(.t 41),(.t 42)] [] []) 43,
 mo (.bin true .add (.t 36) (.t 43)) 44,
 oV 44 5]))
 (.note (.gc [1,2,5,6]) (.reg [oV 6 34,
 mo (.bin true .add (.t 34) (cI 1)) 35,
 oV 35 6]))))
@[irreducible] def mg_4o:List MOp:=[gT 68 69 (.mv (.t 8)),
 gT 68 70 (.mv (.t 5)),
 gT 68 71 (.bin false .gtr (.t 69) (.t 70)),
 mo (.pick (.t 68) (.t 71) (.c (.bool false))) 72]
@[irreducible] def mg_4p:List MOp:=[gF 73 74 (.mv (.t 1)),
 gF 73 75 (.not (.t 74)),
 gF 73 76 (.mv (.t 75)),
 gT 76 77 (.mv (.t 8)),
 gT 76 78 (.mv (.t 5)),
 gT 76 79 (.bin false .lss (.t 77) (.t 78)),
 gF 73 80 (.pick (.t 76) (.t 79) (.c (.bool false))),
 mo (.pick (.t 73) (.c (.bool true)) (.t 80)) 81]
@[irreducible] def mc_4q:MC :=
 (.reg [oV 7 58,
 mo (.bin true .add (.t 58) (cI 1)) 59,
 oV 59 7])
@[irreducible] def mc_4r:MC :=
 (.seq (sR [oV 7 53,
 oF 2 2 54,
 oL 54 55,
 mo (.len false (.t 55)) 56,
 mo (.bin false .lss (.t 53) (.t 56)) 57]
 (.cond (.t 57)
 .skip
 (.exit 3)))
 (.cut (.block 4
 (sR [oF 2 2 60,
 oL 60 61,
 oV 7 62,
 mo (.iad 5 (.t 61) (.t 62)) 63,
 mo (.ld (some 5) (.t 63)) 64,
 oV 1 65,
 mo (.call (.f 42) [(.t 64),(.t 65)] [] []) 66,
 oV 66 8]
 (.seq (.note (.gc [1,2,5,7,8,69,70,71,74,75,76,77,78,79,80]) (.regI [.op (oV 1 67),
 .op (oV 67 68),
 .grp mg_4o,
 .op (oV 72 73),
 .grp mg_4p]))
 (.cond (.t 81)
 (.reg [oV 8 82,
 oV 82 5])
 .skip))))
 mc_4q))
@[irreducible] def mc_4s:MC :=
 (.reg [oV 9 17,
 oF 2 2 18,
 oL 18 19,
 mo (.iad 5 (.t 19) (cI 0)) 20,
 mo (.ld (some 5) (.t 20)) 21,
 oV 1 22,
 mo (.call (.f 42) [(.t 21),(.t 22)] [] []) 23,
 mo (.bin true .mul (.t 17) (.t 23)) 24,
 oV 24 5])
@[irreducible] def mc_4t:MC :=
 (sR [oV 5 83,
 mo (.mm false (.t 83) (cI 1025)) 84,
 oV 84 4]
 .ret)
def mc_e:MC :=
 (sR [mo (.box (.t 0)) 2,
 oC 0 4]
 (sR [oC 0 5]
 (.cut (sR [oF 0 2 10,
 oL 10 11]
 (.block 0
 (sR [mo (.bin false .eql (.t 11) (cI 1)) 26,
 oV 26 25]
 (.cond (.t 25)
 (sR [oC 1 4]
 .ret)
 (sR [mo (.bin false .eql (.t 11) (cI 2)) 28,
 oV 28 27]
 (.cond (.t 27)
 (sR [oC 0 6]
 (.block 1
 (.loop mc_4n)))
 (sR [mo (.bin false .eql (.t 11) (cI 3)) 46,
 oV 46 45]
 (.cond (.t 45)
 (.seq (.note (.gc [1,2,69,70,71,74,75,76,77,78,79,80]) (.reg [oF 2 2 47,
 oL 47 48,
 mo (.iad 5 (.t 48) (cI 0)) 49,
 mo (.ld (some 5) (.t 49)) 50,
 oV 1 51,
 mo (.call (.f 42) [(.t 50),(.t 51)] [] []) 52,
 oV 52 5]))
 (sR [oC 1 7]
 (.block 3
 (.loop mc_4r))))
 (.seq (.note (.gc [1,2]) (.reg [oF 3 2 12,
 oL 12 13,
 oV 13 9]))
 (.cut (sR [oV 1 14]
 (.cond (.t 14)
 (.reg [oF 4 2 15,
 oL 15 16,
 oV 16 9])
 .skip))
 mc_4s))))))))))
 mc_4t)))
theorem Wq_e {n:Nat} (ih_ref05_size:∀{n_:GNode} {most_:Bool} {y:Int},FR_e n n_ most_=some y→ACall Tryz.prog 42 [GNode.v n_,.bool most_] [] (fun r H=>r=.int .i64 y∧H=[])) (n_:GNode) (most_:Bool) {Q:Int→Prop} {Q':V→Heap→Prop} (h:Ok (FR_e (n+1) n_ most_) Q) (hQ:∀z,Q z→Q' (.int .i64 z) []):ACall Tryz.prog 42 [GNode.v n_,.bool most_] [] Q':=by
 refine acallM mc_e [] [] [.t 4] Tryz.func42 fun M=>?_
 simp only [FR_e] at h
 unfold mc_e
 replace h:=tY h
 refine tB ?_
 repeat' (first
 | (exact tZ)
 | ((first|refine oblg h ?_|refine roomG h ?_|refine fork h ?_ ?_|refine forkS h ?_ ?_)<;>clear h<;>intro hc h)
 | (obtain ⟨y,hy,h⟩:=h;have hw:=ih_ref05_size hy;replace hw:=tY hw;(first|refine M.sC hw ?_|refine M.sD hw ?_);clear hw hy;refine tB ?_)
 | (refine M.wh1 (b:=mc_4n) [1,2] [2] (fun x=>[(5,.int .i64 x.1),(6,.int .i64 x.2)]) (fun x=>[]) [] h ?_ ?_<;>first
 | (clear h;intro x Qn K hK1 h;unfold mc_4n;replace h:=tY h;refine tB ?_)
  |(clear h;(try refine tB ?_);exact tU0;done))
 | (refine M.gv1 (ms:=mg_4p) 81 [74,75,76,77,78,79,80] h ?_ ?_<;>first
 | (clear h;intro K hK2;unfold mg_4p;refine tB ?_)
 | (clear h;intro b h;replace h:=tY h;refine tB ?_))
 | (refine M.gv1 (ms:=mg_4o) 72 [69,70,71] h ?_ ?_<;>first
 | (clear h;intro K hK3;unfold mg_4o;refine tB ?_)
 | (clear h;intro b h;replace h:=tY h;refine tB ?_))
 | (refine M.jn1 (b:=mc_4q) [1,2,7] [2] (fun y=>[(5,.int .i64 y)]) (fun y=>[]) [] h ?_ ?_<;>first
 | (clear h;intro Qn K hK4 h;replace h:=tY h;refine tB ?_)
  |(clear h;intro y h;unfold mc_4q;replace h:=tY h;refine tB ?_))
 | (refine M.wh1 (b:=mc_4r) [1,2] [2] (fun x=>[(5,.int .i64 x.1),(7,.int .i64 x.2)]) (fun x=>[]) [] h ?_ ?_<;>first
 | (clear h;intro x Qn K hK5 h;unfold mc_4r;replace h:=tY h;refine tB ?_)
  |(clear h;(try refine tB ?_);exact tU0;done))
 | (refine M.jn1 (b:=mc_4s) [1,2] [2] (fun y=>[(9,.int .i64 y)]) (fun y=>[]) [] h ?_ ?_<;>first
 | (clear h;intro Qn K hK6 h;replace h:=tY h;refine tB ?_)
  |(clear h;intro y h;unfold mc_4s;replace h:=tY h;refine tB ?_))
 | (refine M.jnE (b:=mc_4t) [] [] (fun y=>[(5,.int .i64 y)]) (fun y=>[]) [] h ?_ ?_<;>first
 | (clear h;intro Qn K hK7 h;replace h:=tY h;refine tB ?_)
  |(clear h;intro y h;unfold mc_4t;replace h:=tY h;refine tB ?_))
 | ((first|refine hK1 _ ?_|refine hK4 _ ?_|refine hK5 _ ?_|refine hK6 _ ?_|refine hK7 _ ?_);(try refine tB ?_);refine ⟨_,h,?_⟩;exact tU0;done)
 | ((first|refine hK2 _ ?_|refine hK3 _ ?_);exact tU;done)
 | (refine bfork (fun hc=>?_) (fun hc=>?_))
 | (refine tE ?_;(first|rw [M.lok_compU]|rw [M.lokD_compU]);refine tB ?_)
 | (refine tA ?_)
 | fail)
theorem WG_e:∀n,(∀{n_:GNode} {most_:Bool} {y:Int},FR_e n n_ most_=some y→ACall Tryz.prog 42 [GNode.v n_,.bool most_] [] (fun r H=>r=.int .i64 y∧H=[]))
 | 0=>fun hy=>(by simp only [FR_e] at hy;cases hy)
 | n+1=>by
  have ih_ref05_size:=@WG_e n
  exact fun hy=>Wq_e ih_ref05_size _ _ (Q:=(·=_)) ⟨_,hy,rfl⟩ fun|_,rfl=>⟨rfl,rfl⟩
theorem W_e:∀{n_:GNode} {most_:Bool} {y:Int},F_e n_ most_=some y→ACall Tryz.prog 42 [GNode.v n_,.bool most_] [] (fun r H=>r=.int .i64 y∧H=[]):=fun hy=>by
 obtain ⟨n,hn⟩:=lim_inv hy
 exact (WG_e n) hn
noncomputable def F_1y (n_:GNode):Option Int :=
 (F_1v n_).bind fun y4=>bif decide (200<y4) then some 3 else (F_o n_).bind fun y8=>bif decide (20<y8) then some 9 else (F_p n_).bind fun y12=>bif (!y12) then some 1 else (F_e n_ true).bind fun y16=>bif decide (1024<y16) then some 3 else some 0
def mc_1y:MC :=
 (sR [mo (.box (.t 0)) 1,
 oC 0 2]
 (.seq (sR [mo (.ld (some 5) (.t 1)) 3,
 mo (.call (.f 15) [(.t 3)] [] []) 4,
 mo (.bin false .gtr (.t 4) (cI 200)) 5]
 (.cond (.t 5)
 (sR [oC 3 2]
 .ret)
 .skip))
 (.seq (sR [mo (.ld (some 5) (.t 1)) 6,
 mo (.call (.f 40) [(.t 6)] [] []) 7,
 mo (.bin false .gtr (.t 7) (cI 20)) 8]
 (.cond (.t 8)
 (sR [oC 9 2]
 .ret)
 .skip))
 (.seq (.seq (.note (.gc [1]) (.reg [mo (.ld (some 5) (.t 1)) 9,
 mo (.call (.f 41) [(.t 9)] [] []) 10,
 mo (.not (.t 10)) 11]))
 (.cond (.t 11)
 (sR [oC 1 2]
 .ret)
 .skip))
 (.seq (sR [mo (.ld (some 5) (.t 1)) 12,
 mo (.call (.f 42) [(.t 12),(.c (.bool true))] [] []) 13,
 mo (.bin false .gtr (.t 13) (cI 1024)) 14]
 (.cond (.t 14)
 (sR [oC 3 2]
 .ret)
 .skip))
 (sR [oC 0 2]
 .ret))))))
theorem Wq_1y {n_:GNode}:Cn Tryz.prog 13 [GNode.v n_] [] (F_1y n_) (fun z=>.int .i64 z) (fun z=>[]):=fun Q Q' h hQ=>by
 refine acallM mc_1y [] [] [.t 2] Tryz.func13 fun M=>?_
 unfold F_1y at h
 unfold mc_1y
 replace h:=tY h
 refine tB ?_
 repeat' (first
 | (exact tZ)
 | ((first|refine oblg h ?_|refine roomG h ?_|refine fork h ?_ ?_|refine forkS h ?_ ?_)<;>clear h<;>intro hc h)
 | (obtain ⟨y,hy,h⟩:=h;(first|with_reducible first|have hw:=Wq_1v.w hy|have hw:=W_o hy|have hw:=W_p hy|have hw:=W_e hy);replace hw:=tY hw;(first|refine M.sC hw ?_|refine M.sD hw ?_);clear hw hy;refine tB ?_)
 | (refine tE ?_;(first|rw [M.lok_compU]|rw [M.lokD_compU]);refine tB ?_)
 | (refine tA ?_)
 | fail)
noncomputable def FR_q:Nat→GNode→GNode→Option Bool
 | 0,_,_=>none
 | n+1,a_,b_ =>
 grp (((!decide (a_.Op=b_.Op))||(!decide (a_.Min=b_.Min)))) fun b13=>grp ((b13||(!decide (a_.Max=b_.Max)))) fun b14=>grp ((b14||(!decide ((a_.Ranges.length:Int)=(b_.Ranges.length:Int))))) fun b15=>grp ((b15||(!decide ((a_.Kids.length:Int)=(b_.Kids.length:Int))))) fun b16=>bif b16 then some false else (loop (fun (x25:Int)=>(bif decide (x25<(a_.Ranges.length:Int)) then chk (inb x25 a_.Ranges.length) (chk (inb x25 b_.Ranges.length) (bif (!(decide ((((a_.Ranges.getD (x25).toNat default).Low).toNat:Int)=(((b_.Ranges.getD (x25).toNat default).Low).toNat:Int))&&decide ((((a_.Ranges.getD (x25).toNat default).High).toNat:Int)=(((b_.Ranges.getD (x25).toNat default).High).toNat:Int)))) then some (.ex (.inr false)) else chk (in64 (x25+1)) (some (.nx (x25+1))))) else some (.ex (.inl ())):Option (Fl Int (Sum Unit Bool)))) 0).bind fun r26=>Sum.elim (fun u27=>(loop (fun (x57:Int)=>(bif decide (x57<(a_.Kids.length:Int)) then chk (inb x57 a_.Kids.length) (chk (inb x57 b_.Kids.length) ((FR_q n (a_.Kids.getD (x57).toNat default) (b_.Kids.getD (x57).toNat default)).bind fun y65=>bif (!y65) then some (.ex (.inr false)) else chk (in64 (x57+1)) (some (.nx (x57+1))))) else some (.ex (.inl ())):Option (Fl Int (Sum Unit Bool)))) 0).bind fun r66=>Sum.elim (fun u67=>some true) (fun u68=>some u68) r66) (fun u28=>some u28) r26
noncomputable def F_q (a_:GNode) (b_:GNode):Option Bool:=lim fun n=>FR_q n a_ b_
@[irreducible] def mg_4u:List MOp:=[gF 12 13 (.fad 3 (.t 2)),
 gF 12 14 (.ld none (.t 13)),
 gF 12 15 (.fad 3 (.t 3)),
 gF 12 16 (.ld none (.t 15)),
 gF 12 17 (.bin false .neq (.t 14) (.t 16)),
 mo (.pick (.t 12) (.c (.bool true)) (.t 17)) 18]
@[irreducible] def mg_4v:List MOp:=[gF 19 20 (.fad 4 (.t 2)),
 gF 19 21 (.ld none (.t 20)),
 gF 19 22 (.fad 4 (.t 3)),
 gF 19 23 (.ld none (.t 22)),
 gF 19 24 (.bin false .neq (.t 21) (.t 23)),
 mo (.pick (.t 19) (.c (.bool true)) (.t 24)) 25]
@[irreducible] def mg_4w:List MOp:=[gF 26 27 (.fad 1 (.t 2)),
 gF 26 28 (.ld none (.t 27)),
 gF 26 29 (.len false (.t 28)),
 gF 26 30 (.fad 1 (.t 3)),
 gF 26 31 (.ld none (.t 30)),
 gF 26 32 (.len false (.t 31)),
 gF 26 33 (.bin false .neq (.t 29) (.t 32)),
 mo (.pick (.t 26) (.c (.bool true)) (.t 33)) 34]
@[irreducible] def mg_4x:List MOp:=[gF 35 36 (.fad 2 (.t 2)),
 gF 35 37 (.ld none (.t 36)),
 gF 35 38 (.len false (.t 37)),
 gF 35 39 (.fad 2 (.t 3)),
 gF 35 40 (.ld none (.t 39)),
 gF 35 41 (.len false (.t 40)),
 gF 35 42 (.bin false .neq (.t 38) (.t 41)),
 mo (.pick (.t 35) (.c (.bool true)) (.t 42)) 43]
@[irreducible] def mc_4y:MC :=
 (.seq (sR [oV 5 44,
 oF 1 2 45,
 oL 45 46,
 mo (.len false (.t 46)) 47,
 mo (.bin false .lss (.t 44) (.t 47)) 48]
 (.cond (.t 48)
 .skip
 (.exit 0)))
 (.seq (.block 1
 (.seq (.regD [oF 1 2 51,
 oL 51 52,
 oV 5 53,
 mo (.iad 2 (.t 52) (.t 53)) 54,
 mo (.ld (some 2) (.t 54)) 55,
 oF 1 3 56,
 oL 56 57,
 oV 5 58,
 mo (.iad 2 (.t 57) (.t 58)) 59,
 mo (.ld (some 2) (.t 59)) 60,
 mo (.eqs true [0,0] (.t 55) (.t 60)) 61]
 [[],[0],[],[1,2],[3],[],[5],[],[6,7],[8],[4,9]]
 [[],[0],[],[0,1,2],[0,1,2,3],[],[5],[],[5,6,7],[5,6,7,8],[0,1,2,3,4,5,6,7,8,9]])
 (.cond (.t 61)
 (sR [mo (.mv (.c (.bool false))) 4]
 .ret)
 .skip)))
 (.note (.gc [2,3,5]) (.reg [oV 5 49,
 mo (.bin true .add (.t 49) (cI 1)) 50,
 oV 50 5]))))
@[irreducible] def mc_4z:MC :=
 (.seq (sR [oV 6 62,
 oF 2 2 63,
 oL 63 64,
 mo (.len false (.t 64)) 65,
 mo (.bin false .lss (.t 62) (.t 65)) 66]
 (.cond (.t 66)
 .skip
 (.exit 2)))
 (.seq (.block 3
 (.seq (.regD [oF 2 2 69,
 oL 69 70,
 oV 6 71,
 mo (.iad 5 (.t 70) (.t 71)) 72,
 mo (.ld (some 5) (.t 72)) 73,
 oF 2 3 74,
 oL 74 75,
 oV 6 76,
 mo (.iad 5 (.t 75) (.t 76)) 77,
 mo (.ld (some 5) (.t 77)) 78,
 mo (.call (.f 21) [(.t 73),(.t 78)] [] []) 79,
 mo (.not (.t 79)) 80]
 [[],[0],[],[1,2],[3],[],[5],[],[6,7],[8],[4,9],[10]]
 [[],[0],[],[0,1,2],[0,1,2,3],[],[5],[],[5,6,7],[5,6,7,8],[0,1,2,3,4,5,6,7,8,9],[0,1,2,3,4,5,6,7,8,9,10]])
 (.cond (.t 80)
 (sR [mo (.mv (.c (.bool false))) 4]
 .ret)
 .skip)))
 (.note (.gc [2,3,6]) (.reg [oV 6 67,
 mo (.bin true .add (.t 67) (cI 1)) 68,
 oV 68 6]))))
def mc_q:MC :=
 (sR [mo (.box (.t 0)) 2,
 mo (.box (.t 1)) 3,
 mo (.mv (.c (.bool false))) 4]
 (.seq (.seq (.regI [.op (oF 0 2 7),
 .op (oL 7 8),
 .op (oF 0 3 9),
 .op (oL 9 10),
 .op (mo (.bin false .neq (.t 8) (.t 10)) 11),
 .op (oV 11 12),
 .grp mg_4u,
 .op (oV 18 19),
 .grp mg_4v,
 .op (oV 25 26),
 .grp mg_4w,
 .op (oV 34 35),
 .grp mg_4x])
 (.cond (.t 43)
 (sR [mo (.mv (.c (.bool false))) 4]
 .ret)
 .skip))
 (.seq (sR [oC 0 5]
 (.block 0
 (.loop mc_4y)))
 (.seq (sR [oC 0 6]
 (.block 2
 (.loop mc_4z)))
 (sR [mo (.mv (.c (.bool true))) 4]
 .ret)))))
theorem Wq_q {n:Nat} (ih_ref05_Same:∀{a_:GNode} {b_:GNode} {y:Bool},FR_q n a_ b_=some y→ACall Tryz.prog 21 [GNode.v a_,GNode.v b_] [] (fun r H=>r=.bool y∧H=[])) (a_:GNode) (b_:GNode) {Q:Bool→Prop} {Q':V→Heap→Prop} (h:Ok (FR_q (n+1) a_ b_) Q) (hQ:∀z,Q z→Q' (.bool z) []):ACall Tryz.prog 21 [GNode.v a_,GNode.v b_] [] Q':=by
 refine acallM mc_q [] [] [.t 4] Tryz.func21 fun M=>?_
 simp only [FR_q] at h
 unfold mc_q
 replace h:=tY h
 refine tB ?_
 repeat' (first
 | (exact tZ)
 | ((first|refine oblg h ?_|refine roomG h ?_|refine fork h ?_ ?_|refine forkS h ?_ ?_)<;>clear h<;>intro hc h)
 | (obtain ⟨y,hy,h⟩:=h;have hw:=ih_ref05_Same hy;replace hw:=tY hw;(first|refine M.sC hw ?_|refine M.sD hw ?_);clear hw hy;refine tB ?_)
 | (refine M.wh1 (b:=mc_4y) [2,3] [3,2] (fun x=>[(5,.int .i64 x)]) (fun x=>[]) [] h ?_ ?_<;>first
 | (clear h;intro x Qn K hK1 h;unfold mc_4y;replace h:=tY h;refine tB ?_)
  |(clear h;(try refine tB ?_);exact tU0;done))
 | (refine M.wh1 (b:=mc_4z) [2,3] [3,2] (fun x=>[(6,.int .i64 x)]) (fun x=>[]) [] h ?_ ?_<;>first
 | (clear h;intro x Qn K hK2 h;unfold mc_4z;replace h:=tY h;refine tB ?_)
  |(clear h;(try refine tB ?_);exact tU0;done))
 | (refine M.gv1 (ms:=mg_4x) 43 [36,37,38,39,40,41,42] h ?_ ?_<;>first
 | (clear h;intro K hK3;unfold mg_4x;refine tB ?_)
 | (clear h;intro b h;replace h:=tY h;refine tB ?_))
 | (refine M.gv1 (ms:=mg_4w) 34 [27,28,29,30,31,32,33] h ?_ ?_<;>first
 | (clear h;intro K hK4;unfold mg_4w;refine tB ?_)
 | (clear h;intro b h;replace h:=tY h;refine tB ?_))
 | (refine M.gv1 (ms:=mg_4v) 25 [20,21,22,23,24] h ?_ ?_<;>first
 | (clear h;intro K hK5;unfold mg_4v;refine tB ?_)
 | (clear h;intro b h;replace h:=tY h;refine tB ?_))
 | (refine M.gv1 (ms:=mg_4u) 18 [13,14,15,16,17] h ?_ ?_<;>first
 | (clear h;intro K hK6;unfold mg_4u;refine tB ?_)
 | (clear h;intro b h;replace h:=tY h;refine tB ?_))
 | ((first|refine hK1 _ ?_|refine hK2 _ ?_);(try refine tB ?_);refine ⟨_,h,?_⟩;exact tU0;done)
 | ((first|refine hK3 _ ?_|refine hK4 _ ?_|refine hK5 _ ?_|refine hK6 _ ?_);exact tU;done)
 | (refine bfork (fun hc=>?_) (fun hc=>?_))
 | (refine tE ?_;(first|rw [M.lok_compU]|rw [M.lokD_compU]);refine tB ?_)
 | (refine tA ?_)
 | fail)
theorem WG_q:∀n,(∀{a_:GNode} {b_:GNode} {y:Bool},FR_q n a_ b_=some y→ACall Tryz.prog 21 [GNode.v a_,GNode.v b_] [] (fun r H=>r=.bool y∧H=[]))
 | 0=>fun hy=>(by simp only [FR_q] at hy;cases hy)
 | n+1=>by
  have ih_ref05_Same:=@WG_q n
  exact fun hy=>Wq_q ih_ref05_Same _ _ (Q:=(·=_)) ⟨_,hy,rfl⟩ fun|_,rfl=>⟨rfl,rfl⟩
theorem W_q:∀{a_:GNode} {b_:GNode} {y:Bool},F_q a_ b_=some y→ACall Tryz.prog 21 [GNode.v a_,GNode.v b_] [] (fun r H=>r=.bool y∧H=[]):=fun hy=>by
 obtain ⟨n,hn⟩:=lim_inv hy
 exact (WG_q n) hn
noncomputable def F_2g (c_:UInt8) (x19:Bool×Int):Option (Fl (Bool×Int) Bool) :=
 bif decide (x19.2<9) then jn (α:=Bool) (bif x19.1 then chk (inb x19.2 [92,91,93,40,41,123,125,124,45].length) (some (!decide (((([92,91,93,40,41,123,125,124,45]:Str).getD (x19.2).toNat 0).toNat:Int)=(c_.toNat:Int)))) else some false) fun j23=>chk (in64 (x19.2+1)) (some (.nx (j23,(x19.2+1)))) else some (.ex x19.1)
noncomputable def F_13 (c_:UInt8):Option Str :=
 grp ((decide (33≤(c_.toNat:Int))&&decide ((c_.toNat:Int)≤126))) fun b2=>(loop (F_2g c_) (b2,0)).bind fun r24=>bif r24 then some [c_] else chk (inb ((c_.toNat:Int) / 2^4) [48,49,50,51,52,53,54,55,56,57,97,98,99,100,101,102].length) (some [92,120,(([48,49,50,51,52,53,54,55,56,57,97,98,99,100,101,102]:Str).getD (((c_.toNat:Int) / 2^4)).toNat 0),(([48,49,50,51,52,53,54,55,56,57,97,98,99,100,101,102]:Str).getD (((c_.toNat:Int) % 2^4)).toNat 0)])
@[irreducible] def mg_50:List MOp:=[gT 7 8 (.mv (.t 0)),
 gT 7 9 (.bin false .leq (.t 8) (.c (.int .u8 126))),
 mo (.pick (.t 7) (.t 9) (.c (.bool false))) 10]
@[irreducible] def mg_51:List MOp:=[gT 16 17 (.mv (.t 4)),
 gT 16 18 (.idx (.c (.str [92,91,93,40,41,123,125,124,45])) (.t 17)),
 gT 16 19 (.mv (.t 0)),
 gT 16 20 (.bin false .neq (.t 18) (.t 19)),
 mo (.pick (.t 16) (.t 20) (.c (.bool false))) 21]
@[irreducible] def mc_2g:MC :=
 (.seq (sR [oV 4 11,
 mo (.bin false .lss (.t 11) (cI 9)) 12]
 (.cond (.t 12)
 .skip
 (.exit 0)))
 (.seq (.block 1
 (.regI [.op (oV 3 15),
 .op (oV 15 16),
 .grp mg_51,
 .op (oV 21 3)]))
 (.reg [oV 4 13,
 mo (.bin true .add (.t 13) (cI 1)) 14,
 oV 14 4])))
def mc_13:MC :=
 (sR [mo (.mv (.c (.str []))) 2]
 (.seq (.regI [.op (oV 0 5),
 .op (mo (.bin false .geq (.t 5) (.c (.int .u8 33))) 6),
 .op (oV 6 7),
 .grp mg_50,
 .op (oV 10 3)])
 (.seq (sR [oC 0 4]
 (.block 0
 (.loop mc_2g)))
 (.seq (sR [oV 3 22]
 (.cond (.t 22)
 (sR [oV 0 23,
 mo (.bslice 1 [(.t 23)]) 24,
 mo (.b2s (.t 24)) 25,
 oV 25 2]
 .ret)
 .skip))
 (.seq (.regD [oV 0 26,
 mo (.bin false .shr (.t 26) (.c (.int .u64 4))) 27,
 mo (.idx (.c (.str [48,49,50,51,52,53,54,55,56,57,97,98,99,100,101,102])) (.t 27)) 28,
 oV 0 29,
 mo (.mask 4 (.t 29) .u8) 30,
 mo (.idx (.c (.str [48,49,50,51,52,53,54,55,56,57,97,98,99,100,101,102])) (.t 30)) 31,
 mo (.bslice 1 [(.c (.int .u8 92)),(.c (.int .u8 120)),(.t 28),(.t 31)]) 32,
 mo (.b2s (.t 32)) 33,
 oV 33 2]
 [[],[0],[1],[],[3],[4],[2,5],[6],[7,0,1,2,3,4,5,6,7]]
 [[],[0],[0,1],[],[3],[3,4],[0,1,2,3,4,5],[0,1,2,3,4,5,6],[0,1,2,3,4,5,6,7]])
 .ret)))))
theorem Wq_13 {c_:UInt8}:Cn Tryz.prog 67 [byteV c_] [] (F_13 c_) (fun z=>.str z) (fun z=>[]):=fun Q Q' h hQ=>by
 refine acallM mc_13 [] [] [.t 2] Tryz.func67 fun M=>?_
 unfold F_13 at h
 unfold mc_13
 replace h:=tY h
 refine tB ?_
 repeat' (first
 | (exact tZ)
 | ((first|refine oblg h ?_|refine roomG h ?_|refine inbG h ?_|refine fork h ?_ ?_|refine forkS h ?_ ?_)<;>clear h<;>intro hc h)
 | (refine M.gj1 (ms:=mg_51) [0,3,4] [] (fun y=>[(21,.bool y)]) (fun y=>[]) h ?_ ?_<;>first
 | (clear h;intro Qn K hK1 h;unfold mg_51;replace h:=tY h;refine tB ?_)
  |(clear h;intro y h;replace h:=tY h;refine tB ?_))
 | (refine M.wh1 (b:=mc_2g) [0] [] (fun x=>[(3,.bool x.1),(4,.int .i64 x.2)]) (fun x=>[]) [] h ?_ ?_<;>first
 | (clear h;intro x Qn K hK2 h;unfold F_2g at h;unfold mc_2g;replace h:=tY h;refine tB ?_)
  |(clear h;(try refine tB ?_);exact tU0;done))
 | (refine M.gv1 (ms:=mg_50) 10 [8,9] h ?_ ?_<;>first
 | (clear h;intro K hK3;unfold mg_50;refine tB ?_)
 | (clear h;intro b h;replace h:=tY h;refine tB ?_))
 | ((first|refine hK1 _ ?_|refine hK2 _ ?_);(try refine tB ?_);refine ⟨_,h,?_⟩;exact tU0;done)
 | (refine hK3 _ ?_;exact tU;done)
 | (refine bfork (fun hc=>?_) (fun hc=>?_))
 | (refine tE ?_;(first|rw [M.lok_compU]|rw [M.lokD_compU]);refine tB ?_)
 | (refine tA ?_)
 | fail)
def FR_9:Nat→Int→Option Str
 | 0,_=>none
 | n+1,n_ =>
 bif decide (n_<10) then some [(u8 (48+((u8 n_).toNat:Int)))] else chk (divs n_ 10) ((FR_9 n (n_ / 10)).bind fun y2=>chk (divs n_ 10) (chk (strl (y2.length+[(u8 (48+((u8 (n_ % 10)).toNat:Int)))].length)) (some (y2++[(u8 (48+((u8 (n_ % 10)).toNat:Int)))]))))
noncomputable def F_9 (n_:Int):Option Str:=lim fun n=>FR_9 n n_
def mc_9:MC :=
 (sR [mo (.mv (.c (.str []))) 2]
 (.seq (sR [oV 0 3,
 mo (.bin false .lss (.t 3) (cI 10)) 4]
 (.cond (.t 4)
 (sR [oV 0 5,
 mo (.i2i false .u8 (.t 5)) 6,
 mo (.bin false .add (.c (.int .u8 48)) (.t 6)) 7,
 mo (.bslice 1 [(.t 7)]) 8,
 mo (.b2s (.t 8)) 9,
 oV 9 2]
 .ret)
 .skip))
 (.seq (.regD [oV 0 10,
 mo (.bin true .quo (.t 10) (cI 10)) 11,
 mo (.call (.f 68) [(.t 11)] [] []) 12,
 oV 0 13,
 mo (.bin true .rem (.t 13) (cI 10)) 14,
 mo (.i2i false .u8 (.t 14)) 15,
 mo (.bin false .add (.c (.int .u8 48)) (.t 15)) 16,
 mo (.bslice 1 [(.t 16)]) 17,
 mo (.b2s (.t 17)) 18,
 mo (.bin false .add (.t 12) (.t 18)) 19,
 oV 19 2]
 [[],[0],[1],[],[3],[4],[5],[6],[7],[2,8],[9,2,0,1,2,3,4,5,6,7,8,9]]
 [[],[0],[0,1],[],[3],[3,4],[3,4,5],[3,4,5,6],[3,4,5,6,7],[0,1,2,3,4,5,6,7,8],[0,1,2,3,4,5,6,7,8,9]])
 .ret)))
theorem Wq_9 {n:Nat} (ih_ref05_number:∀{n_:Int} {y:Str},FR_9 n n_=some y→ACall Tryz.prog 68 [.int .i64 n_] [] (fun r H=>r=.str y∧H=[])) (n_:Int) {Q:Str→Prop} {Q':V→Heap→Prop} (h:Ok (FR_9 (n+1) n_) Q) (hQ:∀z,Q z→Q' (.str z) []):ACall Tryz.prog 68 [.int .i64 n_] [] Q':=by
 refine acallM mc_9 [] [] [.t 2] Tryz.func68 fun M=>?_
 simp only [FR_9] at h
 unfold mc_9
 replace h:=tY h
 refine tB ?_
 repeat' (first
 | (exact tZ)
 | ((first|refine oblg h ?_|refine roomG h ?_|refine divG h ?_|refine fork h ?_ ?_|refine forkS h ?_ ?_)<;>clear h<;>intro hc h)
 | (obtain ⟨y,hy,h⟩:=h;have hw:=ih_ref05_number hy;replace hw:=tY hw;(first|refine M.sC hw ?_|refine M.sD hw ?_);clear hw hy;refine tB ?_)
 | (refine tE ?_;(first|rw [M.lok_compU]|rw [M.lokD_compU]);refine tB ?_)
 | (refine tA ?_)
 | fail)
theorem WG_9:∀n,(∀{n_:Int} {y:Str},FR_9 n n_=some y→ACall Tryz.prog 68 [.int .i64 n_] [] (fun r H=>r=.str y∧H=[]))
 | 0=>fun hy=>(by simp only [FR_9] at hy;cases hy)
 | n+1=>by
  have ih_ref05_number:=@WG_9 n
  exact fun hy=>Wq_9 ih_ref05_number _ (Q:=(·=_)) ⟨_,hy,rfl⟩ fun|_,rfl=>⟨rfl,rfl⟩
theorem W_9:∀{n_:Int} {y:Str},F_9 n_=some y→ACall Tryz.prog 68 [.int .i64 n_] [] (fun r H=>r=.str y∧H=[]):=fun hy=>by
 obtain ⟨n,hn⟩:=lim_inv hy
 exact (WG_9 n) hn
noncomputable def FR_f:Nat→GNode→Option Str
 | 0,_=>none
 | n+1,n_ =>
 bif decide (n_.Op=1) then jn (α:=Fl Unit Str) (bif decide ((n_.Ranges.length:Int)=1) then chk (inb 0 n_.Ranges.length) (chk (inb 0 n_.Ranges.length) (bif decide ((((n_.Ranges.getD 0 default).Low).toNat:Int)=(((n_.Ranges.getD 0 default).High).toNat:Int)) then chk (inb 0 n_.Ranges.length) ((F_13 ((n_.Ranges.getD 0 default).Low)).bind fun y99=>some (.ex y99)) else some (.nx ()))) else some (.nx ())) fun o=>o.elim (fun j97=>(loop (fun (x126:Str×Int)=>(bif decide (x126.2<(n_.Ranges.length:Int)) then jn (α:=Str) (chk (inb x126.2 n_.Ranges.length) ((F_13 ((n_.Ranges.getD (x126.2).toNat default).Low)).bind fun y136=>chk (strl (x126.1.length+y136.length)) (chk (inb x126.2 n_.Ranges.length) (chk (inb x126.2 n_.Ranges.length) (bif (!decide ((((n_.Ranges.getD (x126.2).toNat default).High).toNat:Int)=(((n_.Ranges.getD (x126.2).toNat default).Low).toNat:Int))) then chk (inb x126.2 n_.Ranges.length) ((F_13 ((n_.Ranges.getD (x126.2).toNat default).High)).bind fun y137=>chk (strl ([45].length+y137.length)) (chk (strl ((x126.1++y136).length+(([45]:Str)++y137).length)) (some ((x126.1++y136)++(([45]:Str)++y137))))) else some (x126.1++y136)))))) fun j134=>chk (in64 (x126.2+1)) (some (.nx (j134,(x126.2+1)))) else some (.ex x126.1):Option (Fl (Str×Int) Str))) ([91],0)).bind fun r138=>chk (strl (r138.length+[93].length)) (some (r138++[93]))) (fun r139=>some r139) else bif decide (n_.Op=2) then (loop (fun (x161:Str×Int)=>(bif decide (x161.2<(n_.Kids.length:Int)) then jn (α:=Str) (chk (inb x161.2 n_.Kids.length) (bif decide ((n_.Kids.getD (x161.2).toNat default).Op=3) then chk (inb x161.2 n_.Kids.length) ((FR_f n (n_.Kids.getD (x161.2).toNat default)).bind fun y168=>chk (strl ([40].length+y168.length)) (chk (strl ((([40]:Str)++y168).length+[41].length)) (chk (strl (x161.1.length+((([40]:Str)++y168)++[41]).length)) (some (x161.1++((([40]:Str)++y168)++[41])))))) else chk (inb x161.2 n_.Kids.length) ((FR_f n (n_.Kids.getD (x161.2).toNat default)).bind fun y169=>chk (strl (x161.1.length+y169.length)) (some (x161.1++y169))))) fun j167=>chk (in64 (x161.2+1)) (some (.nx (j167,(x161.2+1)))) else some (.ex x161.1):Option (Fl (Str×Int) Str))) ([],0)).bind fun r170=>some r170 else bif decide (n_.Op=3) then (loop (fun (x197:Str×Int)=>(bif decide (x197.2<(n_.Kids.length:Int)) then jn (α:=Str) (bif decide (0<x197.2) then chk (strl (x197.1.length+[124].length)) (some (x197.1++[124])) else some x197.1) fun j204=>chk (inb x197.2 n_.Kids.length) ((FR_f n (n_.Kids.getD (x197.2).toNat default)).bind fun y205=>chk (strl (j204.length+y205.length)) (chk (in64 (x197.2+1)) (some (.nx ((j204++y205),(x197.2+1)))))) else some (.ex x197.1):Option (Fl (Str×Int) Str))) ([],0)).bind fun r206=>some r206 else chk (inb 0 n_.Kids.length) ((FR_f n (n_.Kids.getD 0 default)).bind fun y208=>jn (α:=Str) (chk (inb 0 n_.Kids.length) (bif (!decide ((n_.Kids.getD 0 default).Op=1)) then chk (strl ([40].length+y208.length)) (chk (strl ((([40]:Str)++y208).length+[41].length)) (some ((([40]:Str)++y208)++[41]))) else some y208)) fun j209=>(F_9 n_.Min).bind fun y211=>chk (strl ([123].length+y211.length)) (chk (strl (j209.length+(([123]:Str)++y211).length)) (jn (α:=Str) (bif (!decide (n_.Max=n_.Min)) then (F_9 n_.Max).bind fun y214=>chk (strl ([44].length+y214.length)) (chk (strl ((j209++(([123]:Str)++y211)).length+(([44]:Str)++y214).length)) (some ((j209++(([123]:Str)++y211))++(([44]:Str)++y214)))) else some (j209++(([123]:Str)++y211))) fun j213=>chk (strl (j213.length+[125].length)) (some (j213++[125])))))
noncomputable def F_f (n_:GNode):Option Str:=lim fun n=>FR_f n n_
@[irreducible] def mc_52:MC :=
 (.reg [oV 4 39,
 mo (.bin true .add (.t 39) (cI 1)) 40,
 oV 40 4])
@[irreducible] def mc_53:MC :=
 (.seq (sR [oV 4 34,
 oF 1 1 35,
 oL 35 36,
 mo (.len false (.t 36)) 37,
 mo (.bin false .lss (.t 34) (.t 37)) 38]
 (.cond (.t 38)
 .skip
 (.exit 1)))
 (.cut (.block 2
 (sR [oV 3 41,
 oF 1 1 42,
 oL 42 43,
 oV 4 44,
 mo (.iad 2 (.t 43) (.t 44)) 45,
 oF 0 45 46,
 oL 46 47,
 mo (.call (.f 67) [(.t 47)] [] []) 48,
 mo (.bin false .add (.t 41) (.t 48)) 49,
 oV 49 3]
 (.seq (.note (.gc [1,3,4]) (.regD [oF 1 1 50,
 oL 50 51,
 oV 4 52,
 mo (.iad 2 (.t 51) (.t 52)) 53,
 oF 1 53 54,
 oL 54 55,
 oF 1 1 56,
 oL 56 57,
 oV 4 58,
 mo (.iad 2 (.t 57) (.t 58)) 59,
 oF 0 59 60,
 oL 60 61,
 mo (.bin false .neq (.t 55) (.t 61)) 62]
 [[],[0],[],[1,2],[3],[4],[],[6],[],[7,8],[9],[10],[5,11]]
 [[],[0],[],[0,1,2],[0,1,2,3],[0,1,2,3,4],[],[6],[],[6,7,8],[6,7,8,9],[6,7,8,9,10],[0,1,2,3,4,5,6,7,8,9,10,11]]))
 (.cond (.t 62)
 (.note (.gc [1,3,4]) (.reg [oV 3 63,
 oF 1 1 64,
 oL 64 65,
 oV 4 66,
 mo (.iad 2 (.t 65) (.t 66)) 67,
 oF 1 67 68,
 oL 68 69,
 mo (.call (.f 67) [(.t 69)] [] []) 70,
 mo (.bin false .add (.c (.str [45])) (.t 70)) 71,
 mo (.bin false .add (.t 63) (.t 71)) 72,
 oV 72 3]))
 .skip))))
 mc_52))
@[irreducible] def mc_54:MC :=
 (sR [mo (.mv (.c (.str [91]))) 3]
 (.seq (sR [oC 0 4]
 (.block 1
 (.loop mc_53)))
 (sR [oV 3 73,
 mo (.bin false .add (.t 73) (.c (.str [93]))) 74,
 oV 74 2]
 .ret)))
@[irreducible] def mc_55:MC :=
 (.reg [oV 5 82,
 mo (.bin true .add (.t 82) (cI 1)) 83,
 oV 83 5])
@[irreducible] def mc_56:MC :=
 (.seq (sR [oV 5 77,
 oF 2 1 78,
 oL 78 79,
 mo (.len false (.t 79)) 80,
 mo (.bin false .lss (.t 77) (.t 80)) 81]
 (.cond (.t 81)
 .skip
 (.exit 3)))
 (.cut (.block 4
 (sR [oF 2 1 84,
 oL 84 85,
 oV 5 86,
 mo (.iad 5 (.t 85) (.t 86)) 87,
 oF 0 87 88,
 oL 88 89,
 mo (.bin false .eql (.t 89) (cI 3)) 90]
 (.cond (.t 90)
 (.note (.gc [1,3,5]) (.reg [oV 3 91,
 oF 2 1 92,
 oL 92 93,
 oV 5 94,
 mo (.iad 5 (.t 93) (.t 94)) 95,
 mo (.ld (some 5) (.t 95)) 96,
 mo (.call (.f 50) [(.t 96)] [] []) 97,
 mo (.bin false .add (.c (.str [40])) (.t 97)) 98,
 mo (.bin false .add (.t 98) (.c (.str [41]))) 99,
 mo (.bin false .add (.t 91) (.t 99)) 100,
 oV 100 3]))
 (.note (.gc [1,3,5]) (.reg [oV 3 101,
 oF 2 1 102,
 oL 102 103,
 oV 5 104,
 mo (.iad 5 (.t 103) (.t 104)) 105,
 mo (.ld (some 5) (.t 105)) 106,
 mo (.call (.f 50) [(.t 106)] [] []) 107,
 mo (.bin false .add (.t 101) (.t 107)) 108,
 oV 108 3])))))
 mc_55))
@[irreducible] def mc_57:MC :=
 (.reg [oV 3 123,
 oF 2 1 124,
 oL 124 125,
 oV 6 126,
 mo (.iad 5 (.t 125) (.t 126)) 127,
 mo (.ld (some 5) (.t 127)) 128,
 mo (.call (.f 50) [(.t 128)] [] []) 129,
 mo (.bin false .add (.t 123) (.t 129)) 130,
 oV 130 3])
@[irreducible] def mc_58:MC :=
 (.seq (sR [oV 6 112,
 oF 2 1 113,
 oL 113 114,
 mo (.len false (.t 114)) 115,
 mo (.bin false .lss (.t 112) (.t 115)) 116]
 (.cond (.t 116)
 .skip
 (.exit 5)))
 (.seq (.block 6
 (.cut (sR [oV 6 119,
 mo (.bin false .gtr (.t 119) (cI 0)) 120]
 (.cond (.t 120)
 (.reg [oV 3 121,
 mo (.bin false .add (.t 121) (.c (.str [124]))) 122,
 oV 122 3])
 .skip))
 mc_57))
 (.note (.gc [1,3,6]) (.reg [oV 6 117,
 mo (.bin true .add (.t 117) (cI 1)) 118,
 oV 118 6]))))
@[irreducible] def mc_59:MC :=
 (sR [oV 3 163,
 mo (.bin false .add (.t 163) (.c (.str [125]))) 164,
 oV 164 2]
 .ret)
@[irreducible] def mc_5a:MC :=
 (sR [oV 3 146,
 oF 3 1 147,
 oL 147 148,
 mo (.call (.f 68) [(.t 148)] [] []) 149,
 mo (.bin false .add (.c (.str [123])) (.t 149)) 150,
 mo (.bin false .add (.t 146) (.t 150)) 151,
 oV 151 3]
 (.cut (sR [oF 4 1 152,
 oL 152 153,
 oF 3 1 154,
 oL 154 155,
 mo (.bin false .neq (.t 153) (.t 155)) 156]
 (.cond (.t 156)
 (.note (.gc [1,3]) (.reg [oV 3 157,
 oF 4 1 158,
 oL 158 159,
 mo (.call (.f 68) [(.t 159)] [] []) 160,
 mo (.bin false .add (.c (.str [44])) (.t 160)) 161,
 mo (.bin false .add (.t 157) (.t 161)) 162,
 oV 162 3]))
 .skip))
 mc_59))
def mc_f:MC :=
 (sR [mo (.box (.t 0)) 1,
 mo (.mv (.c (.str []))) 2]
 (sR [mo (.mv (.c (.str []))) 3]
 (.seq (sR [oF 0 1 7,
 oL 7 8]
 (.block 0
 (sR [mo (.bin false .eql (.t 8) (cI 1)) 10,
 oV 10 9]
 (.cond (.t 9)
 (.cut (.seq (.regD [oF 1 1 11,
 oL 11 12,
 mo (.len false (.t 12)) 13,
 mo (.bin false .eql (.t 13) (cI 1)) 14,
 oV 14 15,
 gT 15 16 (.fad 1 (.t 1)),
 gT 15 17 (.ld none (.t 16)),
 gT 15 18 (.iad 2 (.t 17) (cI 0)),
 gT 15 19 (.fad 0 (.t 18)),
 gT 15 20 (.ld none (.t 19)),
 gT 15 21 (.fad 1 (.t 1)),
 gT 15 22 (.ld none (.t 21)),
 gT 15 23 (.iad 2 (.t 22) (cI 0)),
 gT 15 24 (.fad 1 (.t 23)),
 gT 15 25 (.ld none (.t 24)),
 gT 15 26 (.bin false .eql (.t 20) (.t 25)),
 mo (.pick (.t 15) (.t 26) (.c (.bool false))) 27]
 [[],[0],[1],[2],[3],[4],[5,4],[6,4],[7,4],[8,4],[4],[10,4],[11,4],[12,4],[13,4],[9,14,4],[4,15]]
 [[],[0],[0,1],[0,1,2],[0,1,2,3],[0,1,2,3,4],[0,1,2,3,4,5],[0,1,2,3,4,5,6],[0,1,2,3,4,5,6,7],[0,1,2,3,4,5,6,7,8],[0,1,2,3,4],[0,1,2,3,4,10],[0,1,2,3,4,10,11],[0,1,2,3,4,10,11,12],[0,1,2,3,4,10,11,12,13],[0,1,2,3,4,5,6,7,8,9,10,11,12,13,14],[0,1,2,3,4,5,6,7,8,9,10,11,12,13,14,15]])
 (.cond (.t 27)
 (.seq (.note (.gc [1]) (.reg [oF 1 1 28,
 oL 28 29,
 mo (.iad 2 (.t 29) (cI 0)) 30,
 oF 0 30 31,
 oL 31 32,
 mo (.call (.f 67) [(.t 32)] [] []) 33,
 oV 33 2]))
 .ret)
 .skip))
 mc_54)
 (sR [mo (.bin false .eql (.t 8) (cI 2)) 76,
 oV 76 75]
 (.cond (.t 75)
 (.seq (sR [oC 0 5]
 (.block 3
 (.loop mc_56)))
 (sR [oV 3 109,
 oV 109 2]
 .ret))
 (sR [mo (.bin false .eql (.t 8) (cI 3)) 111,
 oV 111 110]
 (.cond (.t 110)
 (.seq (sR [oC 0 6]
 (.block 5
 (.loop mc_58)))
 (sR [oV 3 131,
 oV 131 2]
 .ret))
 .skip))))))))
 (.seq (.note (.gc [1]) (.reg [oF 2 1 132,
 oL 132 133,
 mo (.iad 5 (.t 133) (cI 0)) 134,
 mo (.ld (some 5) (.t 134)) 135,
 mo (.call (.f 50) [(.t 135)] [] []) 136,
 oV 136 3]))
 (.cut (sR [oF 2 1 137,
 oL 137 138,
 mo (.iad 5 (.t 138) (cI 0)) 139,
 oF 0 139 140,
 oL 140 141,
 mo (.bin false .neq (.t 141) (cI 1)) 142]
 (.cond (.t 142)
 (.note (.gc [1,3]) (.reg [oV 3 143,
 mo (.bin false .add (.c (.str [40])) (.t 143)) 144,
 mo (.bin false .add (.t 144) (.c (.str [41]))) 145,
 oV 145 3]))
 .skip))
 mc_5a)))))
theorem Wq_f {n:Nat} (ih_ref05_write:∀{n_:GNode} {y:Str},FR_f n n_=some y→ACall Tryz.prog 50 [GNode.v n_] [] (fun r H=>r=.str y∧H=[])) (n_:GNode) {Q:Str→Prop} {Q':V→Heap→Prop} (h:Ok (FR_f (n+1) n_) Q) (hQ:∀z,Q z→Q' (.str z) []):ACall Tryz.prog 50 [GNode.v n_] [] Q':=by
 refine acallM mc_f [] [] [.t 2] Tryz.func50 fun M=>?_
 simp only [FR_f] at h
 unfold mc_f
 replace h:=tY h
 refine tB ?_
 repeat' (first
 | (exact tZ)
 | ((first|refine oblg h ?_|refine roomG h ?_|refine fork h ?_ ?_|refine forkS h ?_ ?_)<;>clear h<;>intro hc h)
 | (obtain ⟨y,hy,h⟩:=h;(first|with_reducible first|have hw:=Wq_13.w hy|have hw:=ih_ref05_write hy|have hw:=W_9 hy);replace hw:=tY hw;(first|refine M.sC hw ?_|refine M.sD hw ?_);clear hw hy;refine tB ?_)
 | (refine M.jn1 (b:=mc_52) [1,4] [1] (fun y=>[(3,.str y)]) (fun y=>[]) [] h ?_ ?_<;>first
 | (clear h;intro Qn K hK1 h;replace h:=tY h;refine tB ?_)
  |(clear h;intro y h;unfold mc_52;replace h:=tY h;refine tB ?_))
 | (refine M.wh1 (b:=mc_53) [1] [1] (fun x=>[(3,.str x.1),(4,.int .i64 x.2)]) (fun x=>[]) [] h ?_ ?_<;>first
 | (clear h;intro x Qn K hK2 h;unfold mc_53;replace h:=tY h;refine tB ?_)
  |(clear h;(try refine tB ?_);exact tU0;done))
 | (refine M.jnE (b:=mc_54) [1] [1] (fun y=>[]) (fun y=>[]) [] h ?_ ?_<;>first
 | (clear h;intro Qn K hK3 h;replace h:=tY h;refine tB ?_)
  |(clear h;intro y h;unfold mc_54;replace h:=tY h;refine tB ?_))
 | (refine M.jn1 (b:=mc_55) [1,5] [1] (fun y=>[(3,.str y)]) (fun y=>[]) [] h ?_ ?_<;>first
 | (clear h;intro Qn K hK4 h;replace h:=tY h;refine tB ?_)
  |(clear h;intro y h;unfold mc_55;replace h:=tY h;refine tB ?_))
 | (refine M.wh1 (b:=mc_56) [1] [1] (fun x=>[(3,.str x.1),(5,.int .i64 x.2)]) (fun x=>[]) [] h ?_ ?_<;>first
 | (clear h;intro x Qn K hK5 h;unfold mc_56;replace h:=tY h;refine tB ?_)
  |(clear h;(try refine tB ?_);exact tU0;done))
 | (refine M.jn1 (b:=mc_57) [1,6] [1] (fun y=>[(3,.str y)]) (fun y=>[]) [] h ?_ ?_<;>first
 | (clear h;intro Qn K hK6 h;replace h:=tY h;refine tB ?_)
  |(clear h;intro y h;unfold mc_57;replace h:=tY h;refine tB ?_))
 | (refine M.wh1 (b:=mc_58) [1] [1] (fun x=>[(3,.str x.1),(6,.int .i64 x.2)]) (fun x=>[]) [] h ?_ ?_<;>first
 | (clear h;intro x Qn K hK7 h;unfold mc_58;replace h:=tY h;refine tB ?_)
  |(clear h;(try refine tB ?_);exact tU0;done))
 | (refine M.jn1 (b:=mc_59) [] [] (fun y=>[(3,.str y)]) (fun y=>[]) [] h ?_ ?_<;>first
 | (clear h;intro Qn K hK8 h;replace h:=tY h;refine tB ?_)
  |(clear h;intro y h;unfold mc_59;replace h:=tY h;refine tB ?_))
 | (refine M.jn1 (b:=mc_5a) [1] [1] (fun y=>[(3,.str y)]) (fun y=>[]) [] h ?_ ?_<;>first
 | (clear h;intro Qn K hK9 h;replace h:=tY h;refine tB ?_)
  |(clear h;intro y h;unfold mc_5a;replace h:=tY h;refine tB ?_))
 | ((first|refine hK1 _ ?_|refine hK2 _ ?_|refine hK3 _ ?_|refine hK4 _ ?_|refine hK5 _ ?_|refine hK6 _ ?_|refine hK7 _ ?_|refine hK8 _ ?_|refine hK9 _ ?_);(try refine tB ?_);refine ⟨_,h,?_⟩;exact tU0;done)
 | (refine tE ?_;(first|rw [M.lok_compU]|rw [M.lokD_compU]);refine tB ?_)
 | (refine tA ?_)
 | fail)
theorem WG_f:∀n,(∀{n_:GNode} {y:Str},FR_f n n_=some y→ACall Tryz.prog 50 [GNode.v n_] [] (fun r H=>r=.str y∧H=[]))
 | 0=>fun hy=>(by simp only [FR_f] at hy;cases hy)
 | n+1=>by
  have ih_ref05_write:=@WG_f n
  exact fun hy=>Wq_f ih_ref05_write _ (Q:=(·=_)) ⟨_,hy,rfl⟩ fun|_,rfl=>⟨rfl,rfl⟩
theorem W_f:∀{n_:GNode} {y:Str},F_f n_=some y→ACall Tryz.prog 50 [GNode.v n_] [] (fun r H=>r=.str y∧H=[]):=fun hy=>by
 obtain ⟨n,hn⟩:=lim_inv hy
 exact (WG_f n) hn
noncomputable def F_1e (n_:GNode):Option (Str×Int) :=
 (F_1y n_).bind fun y4=>bif (!decide (y4=0)) then some ([],y4) else (F_f n_).bind fun y6=>some (y6,0)
def mc_1e:MC :=
 (sR [mo (.box (.t 0)) 1,
 mo (.mv (.c (.str []))) 2,
 oC 0 3]
 (.seq (sR [mo (.ld (some 5) (.t 1)) 5,
 mo (.call (.f 13) [(.t 5)] [] []) 6,
 oV 6 4]
 (sR [oV 4 7,
 mo (.bin false .neq (.t 7) (cI 0)) 8]
 (.cond (.t 8)
 (.seq (.note (.gc [4]) (.reg [oV 4 9,
 mo (.mv (.c (.str []))) 2,
 oV 9 3]))
 .ret)
 .skip)))
 (.seq (.note (.gc [1]) (.reg [mo (.ld (some 5) (.t 1)) 10,
 mo (.call (.f 50) [(.t 10)] [] []) 11,
 oV 11 2,
 oC 0 3]))
 .ret)))
theorem Wq_1e {n_:GNode}:Cn Tryz.prog 24 [GNode.v n_] [] (F_1e n_) (fun z=>.tup [.str z.1,.int .i64 z.2]) (fun z=>[]):=fun Q Q' h hQ=>by
 refine acallM mc_1e [] [] [.t 2,.t 3] Tryz.func24 fun M=>?_
 unfold F_1e at h
 unfold mc_1e
 replace h:=tY h
 refine tB ?_
 repeat' (first
 | (exact tZ)
 | ((first|refine oblg h ?_|refine roomG h ?_|refine fork h ?_ ?_|refine forkS h ?_ ?_)<;>clear h<;>intro hc h)
 | (obtain ⟨y,hy,h⟩:=h;(first|with_reducible first|have hw:=Wq_1y.w hy|have hw:=W_f hy);replace hw:=tY hw;(first|refine M.sC hw ?_|refine M.sD hw ?_);clear hw hy;refine tB ?_)
 | (refine tE ?_;(first|rw [M.lok_compU]|rw [M.lokD_compU]);refine tB ?_)
 | (refine tA ?_)
 | fail)
end Go.Ab
