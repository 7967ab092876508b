/- What the functions of this seat that lie on the laws' road compute (part LB), each for every input. By AI agents. -/
import Derived.Test.YtgbaffbfggjmgaaGreatDoorProg
import Derived.KernelRfl
import Derived.Test.YtgbaffbfggjmgaaGreatDoorAbFun
import Derived.Test.YtgbaffbfggjmgaaGreatDoorLA
set_option linter.all false
set_option linter.all false
set_option maxRecDepth 20000
set_option maxHeartbeats 2000000
namespace Go.Ab
open Go.Proofs
structure Greader where
 text_:Str
 wrong_:Bool
 deep_:Int
instance:Inhabited Greader:=⟨⟨default,default,default⟩⟩
def Greader.v (x:Greader):V:=.agg [.str x.text_,.bool x.wrong_,.int .i64 x.deep_]
theorem incl_0 {b:Int} {n:Nat}:(inc 0 b n=true)=(((0:Nat):Int)≤b∧b≤(n:Int)):=propext (by rw [inc_iff];omega)
attribute [go_sem] incl_0
theorem incl_1 {b:Int} {n:Nat}:(inc 1 b n=true)=(((1:Nat):Int)≤b∧b≤(n:Int)):=propext (by rw [inc_iff];omega)
attribute [go_sem] incl_1
theorem incl_2 {b:Int} {n:Nat}:(inc 2 b n=true)=(((2:Nat):Int)≤b∧b≤(n:Int)):=propext (by rw [inc_iff];omega)
attribute [go_sem] incl_2
attribute [go_sem] Greader.v
def F_1g (s_:Str) (prefix_:Str):Option Bool :=
 jn (α:=Bool) (bif decide ((prefix_.length:Int)≤(s_.length:Int)) then chk (inc 0 (prefix_.length:Int) s_.length) (some (decide ((s_.take (((prefix_.length:Int)).toNat))=prefix_))) else some false) fun j2=>some j2
@[irreducible] def mg_3h:List MOp:=[gT 10 11 (.mv (.t 0)),
 gT 10 12 (.mv (.t 1)),
 gT 10 13 (.len true (.t 12)),
 gT 10 14 (.sls (.t 11) none (some (.t 13))),
 gT 10 15 (.mv (.t 1)),
 gT 10 16 (.bin false .eql (.t 14) (.t 15)),
 mo (.pick (.t 10) (.t 16) (.c (.bool false))) 17]
def mc_1g:MC :=
 (sR [mo (.mv (.c (.bool false))) 4]
 (.seq (.regI [.op (oV 0 5),
 .op (mo (.len true (.t 5)) 6),
 .op (oV 1 7),
 .op (mo (.len true (.t 7)) 8),
 .op (mo (.bin false .geq (.t 6) (.t 8)) 9),
 .op (oV 9 10),
 .grp mg_3h,
 .op (oV 17 4)])
 .ret))
theorem Wq_1g {s_ prefix_:Str}:Cn Tryz.prog 119 [.str s_,.str prefix_] [] (F_1g s_ prefix_) (fun z=>.bool z) (fun z=>[]):=fun Q Q' h hQ=>by
 refine acallM mc_1g [] [] [.t 4] Tryz.func119 fun M=>?_
 unfold F_1g at h
 unfold mc_1g
 replace h:=tY h
 refine tB ?_
 repeat' (first
 | (exact tZ)
 | ((first|refine oblg h ?_|refine roomG h ?_|refine fork h ?_ ?_|refine forkS h ?_ ?_)<;>clear h<;>intro hc h)
 | (refine M.gj1 (ms:=mg_3h) [4] [] (fun y=>[(17,.bool y)]) (fun y=>[]) h ?_ ?_<;>first
 | (clear h;intro Qn K hK1 h;unfold mg_3h;replace h:=tY h;refine tB ?_)
  |(clear h;intro y h;replace h:=tY h;refine tB ?_))
 | (refine hK1 _ ?_;(try refine tB ?_);refine ⟨_,h,?_⟩;exact tU0;done)
 | (refine tE ?_;(first|rw [M.lok_compU]|rw [M.lokD_compU]);refine tB ?_)
 | (refine tA ?_)
 | fail)
def F_1h (s_:Str) (prefix_:Str):Option (Str×Bool) :=
 (F_1g s_ prefix_).bind fun y4=>bif (!y4) then some (s_,false) else chk (inc (prefix_.length:Int) (s_.length:Int) s_.length) (some ((s_.drop (((prefix_.length:Int)).toNat)),true))
def mc_1h:MC :=
 (sR [mo (.mv (.c (.str []))) 4,
 mo (.mv (.c (.bool false))) 5]
 (.seq (sR [oV 0 6,
 oV 1 7,
 mo (.call (.f 119) [(.t 6),(.t 7)] [] []) 8,
 mo (.not (.t 8)) 9]
 (.cond (.t 9)
 (sR [oV 0 10,
 oV 10 4,
 mo (.mv (.c (.bool false))) 5]
 .ret)
 .skip))
 (sR [oV 0 11,
 oV 1 12,
 mo (.len true (.t 12)) 13,
 mo (.sls (.t 11) (some (.t 13)) none) 14,
 oV 14 4,
 mo (.mv (.c (.bool true))) 5]
 .ret)))
theorem Wq_1h {s_ prefix_:Str}:Cn Tryz.prog 107 [.str s_,.str prefix_] [] (F_1h s_ prefix_) (fun z=>.tup [.str z.1,.bool z.2]) (fun z=>[]):=fun Q Q' h hQ=>by
 refine acallM mc_1h [] [] [.t 4,.t 5] Tryz.func107 fun M=>?_
 unfold F_1h at h
 unfold mc_1h
 replace h:=tY h
 refine tB ?_
 repeat' (first
 | (exact tZ)
 | ((first|refine oblg h ?_|refine roomG h ?_|refine fork h ?_ ?_|refine forkS h ?_ ?_)<;>clear h<;>intro hc h)
 | (obtain ⟨y,hy,h⟩:=h;have hw:=Wq_1g.w hy;replace hw:=tY hw;(first|refine M.sC hw ?_|refine M.sD hw ?_);clear hw hy;refine tB ?_)
 | (refine tE ?_;(first|rw [M.lok_compU]|rw [M.lokD_compU]);refine tB ?_)
 | (refine tA ?_)
 | fail)
def F_1t (s_:Str) (prefix_:Str):Option (Str×Bool) :=
 (F_1h s_ prefix_).bind fun y2=>some (y2.1,y2.2)
def mc_1t:MC :=
 (sR [mo (.mv (.c (.str []))) 4,
 mo (.mv (.c (.bool false))) 5]
 (sR [oV 0 6,
 oV 1 7,
 mo (.call (.f 107) [(.t 6),(.t 7)] [] []) 8,
 mo (.ext 0 (.t 8)) 9,
 mo (.ext 1 (.t 8)) 10,
 oV 9 4,
 oV 10 5]
 .ret))
theorem Wq_1t {s_ prefix_:Str}:Cn Tryz.prog 95 [.str s_,.str prefix_] [] (F_1t s_ prefix_) (fun z=>.tup [.str z.1,.bool z.2]) (fun z=>[]):=fun Q Q' h hQ=>by
 refine acallM mc_1t [] [] [.t 4,.t 5] Tryz.func95 fun M=>?_
 unfold F_1t at h
 unfold mc_1t
 replace h:=tY h
 refine tB ?_
 repeat' (first
 | (exact tZ)
 | ((first|refine oblg h ?_|refine roomG h ?_|refine fork h ?_ ?_|refine forkS h ?_ ?_)<;>clear h<;>intro hc h)
 | (obtain ⟨y,hy,h⟩:=h;have hw:=Wq_1h.w hy;replace hw:=tY hw;(first|refine M.sC hw ?_|refine M.sD hw ?_);clear hw hy;refine tB ?_)
 | (refine tE ?_;(first|rw [M.lok_compU]|rw [M.lokD_compU]);refine tB ?_)
 | (refine tA ?_)
 | fail)
def F_0 (r_:Greader) (s_:Str):Option (Bool×Greader) :=
 (F_1t r_.text_ s_).bind fun y2=>some (y2.2,(Greader.mk y2.1 r_.wrong_ r_.deep_))
def mc_0:MC :=
 (sR [mo (.mv (.c (.bool false))) 4]
 (sR [oV 0 8,
 mo (.nck (.t 8)) 9,
 oF 0 9 10,
 oL 10 11,
 oV 1 12,
 mo (.call (.f 95) [(.t 11),(.t 12)] [] []) 13,
 oV 13 7,
 mo (.ext 0 (.t 7)) 14,
 mo (.ext 1 (.t 7)) 15,
 oV 14 5,
 oV 15 6]
 (.seq (.note (.gc [0,5,6]) (.reg [oV 0 16,
 oV 5 17,
 mo (.nck (.t 16)) 18,
 oF 0 18 19,
 ⟨.st 1 (.t 19) (.t 17),none,none⟩]))
 (sR [oV 6 20,
 oV 20 4]
 .ret))))
theorem Wq_0 {r_:Greader} {s_:Str}:Cn Tryz.prog 84 [.ptr 1000 0,.str s_] [(1000,.cells [.str r_.text_,.bool r_.wrong_,.int .i64 r_.deep_])] (F_0 r_ s_) (fun z=>.bool z.1) (fun z=>[(1000,.cells [.str z.2.text_,.bool z.2.wrong_,.int .i64 z.2.deep_])]):=fun Q Q' h hQ=>by
 refine acallM mc_0 [] [1000] [.t 4] Tryz.func84 fun M=>?_
 unfold F_0 at h
 unfold mc_0
 replace h:=tY h
 refine tB ?_
 repeat' (first
 | (exact tZ)
 | ((first|refine oblg h ?_|refine roomG h ?_|refine fork h ?_ ?_|refine forkS h ?_ ?_)<;>clear h<;>intro hc h)
 | (obtain ⟨y,hy,h⟩:=h;have hw:=Wq_1t.w hy;replace hw:=tY hw;(first|refine M.sC hw ?_|refine M.sD hw ?_);clear hw hy;refine tB ?_)
 | (refine tE ?_;(first|rw [M.lok_compU]|rw [M.lokD_compU]);refine tB ?_)
 | (refine tA ?_)
 | fail)
def F_m (r_:Greader) (s_:Str):Option Greader :=
 (F_0 r_ s_).bind fun y2=>bif (!y2.1) then some (Greader.mk y2.2.text_ true y2.2.deep_) else some y2.2
def mc_m:MC :=
 (sR [oV 0 4,
 oV 1 5,
 mo (.call (.f 84) [(.t 4),(.t 5)] [1000] []) 6,
 mo (.not (.t 6)) 7]
 (.cond (.t 7)
 (.reg [oV 0 8,
 mo (.nck (.t 8)) 9,
 oF 1 9 10,
 ⟨.st 1 (.t 10) (.c (.bool true)),none,none⟩])
 .skip))
theorem Wq_m {r_:Greader} {s_:Str}:Cn Tryz.prog 103 [.ptr 1000 0,.str s_] [(1000,.cells [.str r_.text_,.bool r_.wrong_,.int .i64 r_.deep_])] (F_m r_ s_) (fun z=>.tup []) (fun z=>[(1000,.cells [.str z.text_,.bool z.wrong_,.int .i64 z.deep_])]):=fun Q Q' h hQ=>by
 refine acallM mc_m [] [1000] [] Tryz.func103 fun M=>?_
 unfold F_m at h
 unfold mc_m
 replace h:=tY h
 refine tB ?_
 repeat' (first
 | (exact tZ)
 | ((first|refine oblg h ?_|refine roomG h ?_|refine fork h ?_ ?_|refine forkS h ?_ ?_)<;>clear h<;>intro hc h)
 | (obtain ⟨y,hy,h⟩:=h;have hw:=Wq_0.w hy;replace hw:=tY hw;(first|refine M.sC hw ?_|refine M.sD hw ?_);clear hw hy;refine tB ?_)
 | (refine tE ?_;(first|rw [M.lok_compU]|rw [M.lokD_compU]);refine tB ?_)
 | (refine tA ?_)
 | fail)
def F_t (r_:Greader):Option (UInt8×Greader) :=
 (F_0 r_ [92,120]).bind fun y8=>bif y8.1 then bif decide ((y8.2.text_.length:Int)<2) then some (0,(Greader.mk y8.2.text_ true y8.2.deep_)) else chk (inc 0 2 y8.2.text_.length) ((puE (y8.2.text_.take 2) 16 8).bind fun y10=>grp ((y8.2.wrong_||(!y10.2))) fun b12=>chk (inc 2 (y8.2.text_.length:Int) y8.2.text_.length) (some ((u8 y10.1),(Greader.mk (y8.2.text_.drop 2) b12 y8.2.deep_)))) else bif decide (y8.2.text_=[]) then some (0,(Greader.mk y8.2.text_ true y8.2.deep_)) else chk (inb 0 y8.2.text_.length) ((F_1d [92,91,93,40,41,123,125,124,45] (y8.2.text_.getD 0 0)).bind fun y16=>bif decide (0≤y16) then some (0,(Greader.mk y8.2.text_ true y8.2.deep_)) else chk (inb 0 y8.2.text_.length) (chk (inc 1 (y8.2.text_.length:Int) y8.2.text_.length) (some ((y8.2.text_.getD 0 0),(Greader.mk (y8.2.text_.drop 1) y8.2.wrong_ y8.2.deep_)))))
@[irreducible] def mg_3i:List MOp:=[gF 31 32 (.mv (.t 4)),
 gF 31 33 (.mp (.ifz true) [(.t 32)]),
 mo (.pick (.t 31) (.c (.bool true)) (.t 33)) 34]
def mc_t:MC :=
 (sR [mo (.mv (.c (.int .u8 0))) 2]
 (.seq (sR [oV 0 6,
 mo (.call (.f 84) [(.t 6),(.c (.str [92,120]))] [1000] []) 7]
 (.cond (.t 7)
 (.seq (sR [oV 0 8,
 mo (.nck (.t 8)) 9,
 oF 0 9 10,
 oL 10 11,
 mo (.len true (.t 11)) 12,
 mo (.bin false .lss (.t 12) (cI 2)) 13]
 (.cond (.t 13)
 (.seq (.note (.gc [0]) (.reg [oV 0 14,
 mo (.nck (.t 14)) 15,
 oF 1 15 16,
 ⟨.st 1 (.t 16) (.c (.bool true)),none,none⟩]))
 (sR [mo (.mv (.c (.int .u8 0))) 2]
 .ret))
 .skip))
 (.seq (.note (.gc [0,32,33]) (.reg [oV 0 18,
 mo (.nck (.t 18)) 19,
 oF 0 19 20,
 oL 20 21,
 mo (.sls (.t 21) none (some (cI 2))) 22,
 mo (.call (.f 116) [(.t 22),(cI 16),(cI 8)] [] []) 23,
 oV 23 17,
 mo (.ext 0 (.t 17)) 24,
 mo (.ext 1 (.t 17)) 25,
 oV 24 3,
 oV 25 4]))
 (.seq (.note (.gc [0,3,4,32,33]) (.regI [.op (oV 0 26),
 .op (oV 0 27),
 .op (mo (.nck (.t 27)) 28),
 .op (oF 1 28 29),
 .op (oL 29 30),
 .op (oV 30 31),
 .grp mg_3i,
 .op (mo (.nck (.t 26)) 35),
 .op (oF 1 35 36),
 .op ⟨.st 1 (.t 36) (.t 34),none,none⟩]))
 (.seq (.note (.gc [0,3]) (.reg [oV 0 37,
 oV 0 38,
 mo (.nck (.t 38)) 39,
 oF 0 39 40,
 oL 40 41,
 mo (.sls (.t 41) (some (cI 2)) none) 42,
 mo (.nck (.t 37)) 43,
 oF 0 43 44,
 ⟨.st 1 (.t 44) (.t 42),none,none⟩]))
 (.seq (.note (.gc [3]) (.reg [oV 3 45,
 mo (.i2i false .u8 (.t 45)) 46,
 oV 46 2]))
 .ret)))))
 .skip))
 (.seq (sR [oV 0 47,
 mo (.nck (.t 47)) 48,
 oF 0 48 49,
 oL 49 50,
 mo (.bin false .eql (.t 50) (.c (.str []))) 51,
 oV 51 52,
 gF 52 53 (.mv (.t 0)),
 gF 52 54 (.nck (.t 53)),
 gF 52 55 (.fad 0 (.t 54)),
 gF 52 56 (.ld none (.t 55)),
 gF 52 57 (.idx (.t 56) (cI 0)),
 gF 52 58 (.call (.f 90) [(.c (.str [92,91,93,40,41,123,125,124,45])),(.t 57)] [] []),
 gF 52 59 (.bin false .geq (.t 58) (cI 0)),
 mo (.pick (.t 52) (.c (.bool true)) (.t 59)) 60]
 (.cond (.t 60)
 (.seq (.note (.gc [0]) (.reg [oV 0 61,
 mo (.nck (.t 61)) 62,
 oF 1 62 63,
 ⟨.st 1 (.t 63) (.c (.bool true)),none,none⟩]))
 (sR [mo (.mv (.c (.int .u8 0))) 2]
 .ret))
 .skip))
 (.seq (.note (.gc [0]) (.reg [oV 0 64,
 mo (.nck (.t 64)) 65,
 oF 0 65 66,
 oL 66 67,
 mo (.idx (.t 67) (cI 0)) 68,
 oV 68 5]))
 (sR [oV 0 69,
 oV 0 70,
 mo (.nck (.t 70)) 71,
 oF 0 71 72,
 oL 72 73,
 mo (.sls (.t 73) (some (cI 1)) none) 74,
 mo (.nck (.t 69)) 75,
 oF 0 75 76,
 ⟨.st 1 (.t 76) (.t 74),none,none⟩]
 (sR [oV 5 77,
 oV 77 2]
 .ret))))))
theorem Wq_t {r_:Greader}:Cn Tryz.prog 105 [.ptr 1000 0] [(1000,.cells [.str r_.text_,.bool r_.wrong_,.int .i64 r_.deep_])] (F_t r_) (fun z=>byteV z.1) (fun z=>[(1000,.cells [.str z.2.text_,.bool z.2.wrong_,.int .i64 z.2.deep_])]):=fun Q Q' h hQ=>by
 refine acallM mc_t [] [1000] [.t 2] Tryz.func105 fun M=>?_
 unfold F_t at h
 unfold mc_t
 replace h:=tY h
 refine tB ?_
 repeat' (first
 | (exact tZ)
 | ((first|refine oblg h ?_|refine roomG h ?_|refine incG h ?_|refine fork h ?_ ?_|refine forkS h ?_ ?_)<;>clear h<;>intro hc h)
 | (obtain ⟨y,hy,h⟩:=h;(first|with_reducible first|have hw:=Wq_0.w hy|have hw:=W_5y hy|have hw:=Wq_1d.w hy);replace hw:=tY hw;(first|refine M.sC hw ?_|refine M.sD hw ?_);clear hw hy;refine tB ?_)
 | (refine M.gv1 (ms:=mg_3i) 34 [32,33] h ?_ ?_<;>first
 | (clear h;intro K hK1;unfold mg_3i;refine tB ?_)
 | (clear h;intro b h;replace h:=tY h;refine tB ?_))
 | (refine hK1 _ ?_;exact tU;done)
 | (refine bfork (fun hc=>?_) (fun hc=>?_))
 | (refine tE ?_;(first|rw [M.lok_compU]|rw [M.lokD_compU]);refine tB ?_)
 | (refine tA ?_)
 | fail)
noncomputable def F_15 (x57:(List GRange)×Greader):Option (Fl ((List GRange)×Greader) ((List GRange)×Greader)) :=
 bif (!x57.2.wrong_) then (F_0 x57.2 [93]).bind fun y71=>bif (!y71.1) then (F_t y71.2).bind fun y73=>jn (α:=Greader×GRange) ((F_0 y73.2 [45]).bind fun y79=>bif y79.1 then (F_t y79.2).bind fun y80=>some (y80.2,(GRange.mk y73.1 y80.1)) else some (y79.2,(GRange.mk y73.1 y73.1))) fun j77=>chk (room (x57.1.length+[j77.2].length) 2) (some (.nx ((x57.1++[j77.2]),j77.1))) else some (.ex (x57.1,y71.2)) else some (.ex (x57.1,x57.2))
noncomputable def F_12 (r_:Greader):Option (GNode×Greader) :=
 (loop F_15 ([],r_)).bind fun r81=>some ((GNode.mk 1 r81.1 [] 0 0),r81.2)
@[irreducible] def mc_3j:MC :=
 (.reg [oF 1 3 27,
 oL 27 28,
 mo (.ld (some 2) (.t 4)) 29,
 mo (.bslice 2 [(.t 29)]) 30,
 mo (.app 2 2 (.t 28) (.t 30)) 31,
 oF 1 3 32,
 ⟨.st 1 (.t 32) (.t 31),none,none⟩])
@[irreducible] def mc_15:MC :=
 (.seq (sR [oV 0 6,
 mo (.nck (.t 6)) 7,
 oF 1 7 8,
 oL 8 9,
 mo (.not (.t 9)) 10,
 oV 10 11,
 gT 11 12 (.mv (.t 0)),
 gT 11 13 (.call (.f 84) [(.t 12),(.c (.str [93]))] [1000] []),
 gT 11 14 (.not (.t 13)),
 mo (.pick (.t 11) (.t 14) (.c (.bool false))) 15]
 (.cond (.t 15)
 .skip
 (.exit 0)))
 (.block 1
 (sR [oV 0 16,
 mo (.call (.f 105) [(.t 16)] [1000] []) 17,
 mo (.build [(.int .u8 0),(.int .u8 0)] [(0,1,(.t 17))]) 18,
 mo (.alloc [(.int .u8 0),(.int .u8 0)]) 4,
 ⟨.st 2 (.t 4) (.t 18),none,none⟩]
 (.seq (.note (.gc [0,2,3,4,12,13,14]) (.reg [oF 0 4 19,
 oL 19 20,
 oF 1 4 21,
 ⟨.st 1 (.t 21) (.t 20),none,none⟩]))
 (.cut (sR [oV 0 22,
 mo (.call (.f 84) [(.t 22),(.c (.str [45]))] [1000] []) 23]
 (.cond (.t 23)
 (.reg [oV 0 24,
 mo (.call (.f 105) [(.t 24)] [1000] []) 25,
 oF 1 4 26,
 ⟨.st 1 (.t 26) (.t 25),none,none⟩])
 .skip))
 mc_3j)))))
def mc_12:MC :=
 (sR [mo (.alloc [(.int .i64 0),(.sl []),(.sl []),(.int .i64 0),(.int .i64 0)]) 2]
 (sR [mo (.build [(.int .i64 0),.nils,.nils,(.int .i64 0),(.int .i64 0)] [(0,1,(cI 1))]) 5,
 mo (.alloc [(.int .i64 0),(.sl []),(.sl []),(.int .i64 0),(.int .i64 0)]) 3,
 ⟨.st 5 (.t 3) (.t 5),none,none⟩]
 (.seq (.block 0
 (.loop mc_15))
 (sR [mo (.ld (some 5) (.t 3)) 33,
 ⟨.st 5 (.t 2) (.t 33),none,none⟩]
 .ret))))
theorem Wq_12 {r_:Greader}:Cn Tryz.prog 104 [.ptr 1000 0] [(1000,.cells [.str r_.text_,.bool r_.wrong_,.int .i64 r_.deep_])] (F_12 r_) (fun z=>GNode.v z.1) (fun z=>[(1000,.cells [.str z.2.text_,.bool z.2.wrong_,.int .i64 z.2.deep_])]):=fun Q Q' h hQ=>by
 refine acallM mc_12 [.fzc 2] [1000] [.c 2 (some 5)] Tryz.func104 fun M=>?_
 unfold F_12 at h
 unfold mc_12
 replace h:=tY h
 refine tB ?_
 repeat' (first
 | (exact tZ)
 | ((first|refine oblg h ?_|refine roomG h ?_|refine fork h ?_ ?_|refine forkS h ?_ ?_)<;>clear h<;>intro hc h)
 | (obtain ⟨y,hy,h⟩:=h;(first|with_reducible first|have hw:=Wq_0.w hy|have hw:=Wq_t.w hy);replace hw:=tY hw;(first|refine M.sC hw ?_|refine M.sD hw ?_);clear hw hy;refine tB ?_)
 | (refine M.jn1 (b:=mc_3j) [0,2,3,4,12,13,14] [3,4049,2] (fun y=>[]) (fun y=>[.o 1000 (.cells [.str y.1.text_,.bool y.1.wrong_,.int .i64 y.1.deep_]),.o 4 (.cells [byteV y.2.Low,byteV y.2.High])]) [] h ?_ ?_<;>first
 | (clear h;intro Qn K hK1 h;replace h:=tY h;refine tB ?_)
  |(clear h;intro y h;unfold mc_3j;replace h:=tY h;refine tB ?_))
 | (refine M.wh1 (b:=mc_15) [0,2,3] [3,2] (fun x=>[]) (fun x=>[.p 3 1 [.osl 4049 2 0 x.1.length],.o 4049 (.arr 2 (x.1.map GRange.v)),.o 1000 (.cells [.str x.2.text_,.bool x.2.wrong_,.int .i64 x.2.deep_])]) [.gc [0,2,3],.ownC 3 1 4049 2 none] h ?_ ?_<;>first
 | (clear h;intro x Qn K hK2 h;unfold F_15 at h;unfold mc_15;replace h:=tY h;refine tB ?_)
  |(clear h;(try refine tB ?_);exact tU0;done))
 | ((first|refine hK1 _ ?_|refine hK2 _ ?_);(try refine tB ?_);refine ⟨_,h,?_⟩;exact tU0;done)
 | (refine tE ?_;(first|rw [M.lok_compU]|rw [M.lokD_compU]);refine tB ?_)
 | (refine tA ?_)
 | fail)
def F_u (r_:Greader):Option (Int×Greader) :=
 (trimLI r_.text_ [48,49,50,51,52,53,54,55,56,57]).bind fun y2=>chk (in64 ((r_.text_.length:Int) - (y2.length:Int))) (chk (inc 0 ((r_.text_.length:Int) - (y2.length:Int)) r_.text_.length) ((atoiE (r_.text_.take ((((r_.text_.length:Int) - (y2.length:Int))).toNat))).bind fun y4=>grp ((r_.wrong_||(!y4.2))) fun b6=>some (y4.1,(Greader.mk y2 b6 r_.deep_))))
@[irreducible] def mg_3k:List MOp:=[gF 33 34 (.mv (.t 5)),
 gF 33 35 (.mp (.ifz true) [(.t 34)]),
 mo (.pick (.t 33) (.c (.bool true)) (.t 35)) 36]
def mc_u:MC :=
 (sR [oC 0 2]
 (sR [oV 0 6,
 mo (.nck (.t 6)) 7,
 oF 0 7 8,
 oL 8 9,
 mo (.call (.f 117) [(.t 9),(.c (.str [48,49,50,51,52,53,54,55,56,57]))] [] []) 10,
 oV 10 3]
 (.seq (.regD [oV 0 12,
 mo (.nck (.t 12)) 13,
 oF 0 13 14,
 oL 14 15,
 oV 0 16,
 mo (.nck (.t 16)) 17,
 oF 0 17 18,
 oL 18 19,
 mo (.len true (.t 19)) 20,
 oV 3 21,
 mo (.len true (.t 21)) 22,
 mo (.bin true .sub (.t 20) (.t 22)) 23,
 mo (.sls (.t 15) none (some (.t 23))) 24,
 mo (.call (.f 118) [(.t 24)] [] []) 25,
 oV 25 11,
 mo (.ext 0 (.t 11)) 26,
 mo (.ext 1 (.t 11)) 27,
 oV 26 4,
 oV 27 5]
 [[],[0],[1],[2],[],[4],[5],[6],[7],[],[9],[8,10],[3,11],[12],[13],[14],[14],[15,13,0,1,2,3,4,5,6,7,8,9,10,11,12,13,14,15],[16,17,0,1,2,3,4,5,6,7,8,9,10,11,12,13,14,15,16,17]]
 [[],[0],[0,1],[0,1,2],[],[4],[4,5],[4,5,6],[4,5,6,7],[],[9],[4,5,6,7,8,9,10],[0,1,2,3,4,5,6,7,8,9,10,11],[0,1,2,3,4,5,6,7,8,9,10,11,12],[0,1,2,3,4,5,6,7,8,9,10,11,12,13],[0,1,2,3,4,5,6,7,8,9,10,11,12,13,14],[0,1,2,3,4,5,6,7,8,9,10,11,12,13,14],[0,1,2,3,4,5,6,7,8,9,10,11,12,13,14,15],[0,1,2,3,4,5,6,7,8,9,10,11,12,13,14,15,16,17]])
 (.seq (.note (.gc [0,3,4,5,34,35]) (.regI [.op (oV 0 28),
 .op (oV 0 29),
 .op (mo (.nck (.t 29)) 30),
 .op (oF 1 30 31),
 .op (oL 31 32),
 .op (oV 32 33),
 .grp mg_3k,
 .op (mo (.nck (.t 28)) 37),
 .op (oF 1 37 38),
 .op ⟨.st 1 (.t 38) (.t 36),none,none⟩]))
 (.seq (.note (.gc [0,3,4]) (.reg [oV 0 39,
 oV 3 40,
 mo (.nck (.t 39)) 41,
 oF 0 41 42,
 ⟨.st 1 (.t 42) (.t 40),none,none⟩]))
 (sR [oV 4 43,
 oV 43 2]
 .ret))))))
theorem Wq_u {r_:Greader}:Cn Tryz.prog 106 [.ptr 1000 0] [(1000,.cells [.str r_.text_,.bool r_.wrong_,.int .i64 r_.deep_])] (F_u r_) (fun z=>.int .i64 z.1) (fun z=>[(1000,.cells [.str z.2.text_,.bool z.2.wrong_,.int .i64 z.2.deep_])]):=fun Q Q' h hQ=>by
 refine acallM mc_u [] [1000] [.t 2] Tryz.func106 fun M=>?_
 unfold F_u at h
 unfold mc_u
 replace h:=tY h
 refine tB ?_
 repeat' (first
 | (exact tZ)
 | ((first|refine oblg h ?_|refine roomG h ?_|refine fork h ?_ ?_|refine forkS h ?_ ?_)<;>clear h<;>intro hc h)
 | (obtain ⟨y,hy,h⟩:=h;(first|with_reducible first|have hw:=W_5z hy|have hw:=W_5w hy);replace hw:=tY hw;(first|refine M.sC hw ?_|refine M.sD hw ?_);clear hw hy;refine tB ?_)
 | (refine M.gv1 (ms:=mg_3k) 36 [34,35] h ?_ ?_<;>first
 | (clear h;intro K hK1;unfold mg_3k;refine tB ?_)
 | (clear h;intro b h;replace h:=tY h;refine tB ?_))
 | (refine hK1 _ ?_;exact tU;done)
 | (refine bfork (fun hc=>?_) (fun hc=>?_))
 | (refine tE ?_;(first|rw [M.lok_compU]|rw [M.lokD_compU]);refine tB ?_)
 | (refine tA ?_)
 | fail)
def F_v (r_:Greader):Option Bool :=
 jn (α:=Bool) (bif (!decide (r_.text_=[])) then chk (inb 0 r_.text_.length) (some (!decide (((r_.text_.getD 0 0).toNat:Int)=124))) else some false) fun j3=>jn (α:=Bool) (bif j3 then chk (inb 0 r_.text_.length) (some (!decide (((r_.text_.getD 0 0).toNat:Int)=41))) else some false) fun j4=>some j4
@[irreducible] def mg_3l:List MOp:=[gT 8 9 (.mv (.t 0)),
 gT 8 10 (.nck (.t 9)),
 gT 8 11 (.fad 0 (.t 10)),
 gT 8 12 (.ld none (.t 11)),
 gT 8 13 (.idx (.t 12) (cI 0)),
 gT 8 14 (.bin false .neq (.t 13) (.c (.int .u8 124))),
 mo (.pick (.t 8) (.t 14) (.c (.bool false))) 15]
@[irreducible] def mg_3m:List MOp:=[gT 16 17 (.mv (.t 0)),
 gT 16 18 (.nck (.t 17)),
 gT 16 19 (.fad 0 (.t 18)),
 gT 16 20 (.ld none (.t 19)),
 gT 16 21 (.idx (.t 20) (cI 0)),
 gT 16 22 (.bin false .neq (.t 21) (.c (.int .u8 41))),
 mo (.pick (.t 16) (.t 22) (.c (.bool false))) 23]
def mc_v:MC :=
 (sR [mo (.mv (.c (.bool false))) 2]
 (.seq (.regI [.op (oV 0 3),
 .op (mo (.nck (.t 3)) 4),
 .op (oF 0 4 5),
 .op (oL 5 6),
 .op (mo (.bin false .neq (.t 6) (.c (.str []))) 7),
 .op (oV 7 8),
 .grp mg_3l,
 .op (oV 15 16),
 .grp mg_3m,
 .op (oV 23 2)])
 .ret))
theorem Wq_v {r_:Greader}:Cn Tryz.prog 94 [.ptr 1000 0] [(1000,.cells [.str r_.text_,.bool r_.wrong_,.int .i64 r_.deep_])] (F_v r_) (fun z=>.bool z) (fun z=>[(1000,.cells [.str r_.text_,.bool r_.wrong_,.int .i64 r_.deep_])]):=fun Q Q' h hQ=>by
 refine acallM mc_v [] [1000] [.t 2] Tryz.func94 fun M=>?_
 unfold F_v at h
 unfold mc_v
 replace h:=tY h
 refine tB ?_
 repeat' (first
 | (exact tZ)
 | ((first|refine oblg h ?_|refine roomG h ?_|refine fork h ?_ ?_|refine forkS h ?_ ?_)<;>clear h<;>intro hc h)
 | (refine M.gj1 (ms:=mg_3m) [2] [1000] (fun y=>[(23,.bool y)]) (fun y=>[]) h ?_ ?_<;>first
 | (clear h;intro Qn K hK1 h;unfold mg_3m;replace h:=tY h;refine tB ?_)
  |(clear h;intro y h;replace h:=tY h;refine tB ?_))
 | (refine M.gj1 (ms:=mg_3l) [0,2] [1000] (fun y=>[(15,.bool y)]) (fun y=>[]) h ?_ ?_<;>first
 | (clear h;intro Qn K hK2 h;unfold mg_3l;replace h:=tY h;refine tB ?_)
  |(clear h;intro y h;replace h:=tY h;refine tB ?_))
 | ((first|refine hK1 _ ?_|refine hK2 _ ?_);(try refine tB ?_);refine ⟨_,h,?_⟩;exact tU0;done)
 | (refine tE ?_;(first|rw [M.lok_compU]|rw [M.lokD_compU]);refine tB ?_)
 | (refine tA ?_)
 | fail)
def F_x (p_:Greader):Option (Bool×Greader) :=
 (F_0 p_ [124]).bind fun y2=>some (y2.1,y2.2)
def mc_x:MC :=
 (sR [mo (.mv (.c (.bool false))) 1]
 (sR [oL 0 2,
 mo (.call (.f 84) [(.t 2),(.c (.str [124]))] [1001] []) 3,
 oV 3 1]
 .ret))
theorem Wq_x {p_:Greader}:Cn Tryz.prog 83 [.ptr 1000 0] [(1000,.cells [.ptr 1001 0]),(1001,.cells [.str p_.text_,.bool p_.wrong_,.int .i64 p_.deep_])] (F_x p_) (fun z=>.bool z.1) (fun z=>[(1000,.cells [.ptr 1001 0]),(1001,.cells [.str z.2.text_,.bool z.2.wrong_,.int .i64 z.2.deep_])]):=fun Q Q' h hQ=>by
 refine acallM mc_x [] [1000,1001] [.t 1] Tryz.func83 fun M=>?_
 unfold F_x at h
 unfold mc_x
 replace h:=tY h
 refine tB ?_
 repeat' (first
 | (exact tZ)
 | ((first|refine oblg h ?_|refine roomG h ?_|refine fork h ?_ ?_|refine forkS h ?_ ?_)<;>clear h<;>intro hc h)
 | (obtain ⟨y,hy,h⟩:=h;have hw:=acall_swe 1000 1001 (Wq_0.w hy);replace hw:=tY hw;(first|refine M.sC hw ?_|refine M.sD hw ?_);clear hw hy;refine tB ?_)
 | (refine tE ?_;(first|rw [M.lok_compU]|rw [M.lokD_compU]);refine tB ?_)
 | (refine tA ?_)
 | fail)
mutual
noncomputable def FR_3:Nat→Greader→Option (GNode×Greader)
 | 0,_=>none
 | n+1,r_ =>
 jn (α:=GNode×Greader) ((F_0 r_ [40]).bind fun y13=>bif y13.1 then (FR_2 n y13.2).bind fun y15=>(F_m y15.2 [41]).bind fun y16=>some (y15.1,y16) else (F_0 y13.2 [91]).bind fun y18=>bif y18.1 then (F_12 y18.2).bind fun y19=>some (y19.1,y19.2) else (F_t y18.2).bind fun y21=>some ((GNode.mk 1 [(GRange.mk y21.1 y21.1)] [] 0 0),y21.2)) fun j11=>(F_0 j11.2 [123]).bind fun y35=>bif y35.1 then (F_u y35.2).bind fun y37=>(F_0 y37.2 [44]).bind fun y42=>bif y42.1 then (F_u y42.2).bind fun y43=>(F_m y43.2 [125]).bind fun y44=>some ((GNode.mk 4 [] [j11.1] y37.1 y43.1),y44) else (F_m y42.2 [125]).bind fun y45=>some ((GNode.mk 4 [] [j11.1] y37.1 y37.1),y45) else some (j11.1,y35.2)
noncomputable def FR_d:Nat→Greader→Int→Option (GNode×Greader)
 | 0,_,_=>none
 | n+1,r_,op_ =>
 (FR_3 n r_).bind fun y2=>(loop (fun (x34:Int×(List GNode)×Greader)=>(bif (!x34.2.2.wrong_) then (F_v x34.2.2).bind fun y43=>bif y43 then (FR_3 n x34.2.2).bind fun y44=>chk (room (x34.2.1.length+[y44.1].length) 72) (some (.nx (x34.1,(x34.2.1++[y44.1]),y44.2))) else some (.ex (x34.1,x34.2.1,x34.2.2)) else some (.ex (x34.1,x34.2.1,x34.2.2)):Option (Fl (Int×(List GNode)×Greader) (Int×(List GNode)×Greader)))) (op_,[y2.1],y2.2)).bind fun r45=>bif decide ((r45.2.1.length:Int)=1) then chk (inb 0 r45.2.1.length) (some (r45.2.1.getD 0 default,r45.2.2)) else some ((GNode.mk r45.1 [] r45.2.1 0 0),r45.2.2)
noncomputable def FR_5:Nat→Greader→Option (GNode×Greader)
 | 0,_=>none
 | n+1,r_ =>
 (FR_d n r_ 2).bind fun y2=>some (y2.1,y2.2)
noncomputable def FR_k:Nat→Greader→Int→Option (GNode×Greader)
 | 0,_,_=>none
 | n+1,r_,op_ =>
 (FR_5 n r_).bind fun y2=>(loop (fun (x34:Int×(List GNode)×Greader)=>(bif (!x34.2.2.wrong_) then (F_x x34.2.2).bind fun y43=>bif y43.1 then (FR_5 n y43.2).bind fun y44=>chk (room (x34.2.1.length+[y44.1].length) 72) (some (.nx (x34.1,(x34.2.1++[y44.1]),y44.2))) else some (.ex (x34.1,x34.2.1,y43.2)) else some (.ex (x34.1,x34.2.1,x34.2.2)):Option (Fl (Int×(List GNode)×Greader) (Int×(List GNode)×Greader)))) (op_,[y2.1],y2.2)).bind fun r45=>bif decide ((r45.2.1.length:Int)=1) then chk (inb 0 r45.2.1.length) (some (r45.2.1.getD 0 default,r45.2.2)) else some ((GNode.mk r45.1 [] r45.2.1 0 0),r45.2.2)
noncomputable def FR_2:Nat→Greader→Option (GNode×Greader)
 | 0,_=>none
 | n+1,r_ =>
 chk (in64 (r_.deep_+1)) (bif decide (20<(r_.deep_+1)) then some ((GNode.mk 0 [] [] 0 0),(Greader.mk r_.text_ true (r_.deep_+1))) else (FR_k n (Greader.mk r_.text_ r_.wrong_ (r_.deep_+1)) 3).bind fun y2=>chk (in64 (y2.2.deep_ - 1)) (some (y2.1,(Greader.mk y2.2.text_ y2.2.wrong_ (y2.2.deep_ - 1)))))
end
noncomputable def F_2 (r_:Greader):Option (GNode×Greader):=lim fun n=>FR_2 n r_
@[irreducible] def mc_3n:MC :=
 (.seq (sR [oV 0 24,
 mo (.call (.f 84) [(.t 24),(.c (.str [123]))] [1000] []) 25]
 (.cond (.t 25)
 (.seq (.regD [mo (.ld (some 5) (.t 3)) 26,
 mo (.bslice 5 [(.t 26)]) 27,
 oV 0 28,
 mo (.call (.f 106) [(.t 28)] [1000] []) 29,
 mo (.build [(.int .i64 0),(.sl []),(.sl []),(.int .i64 0),(.int .i64 0)] [(0,1,(cI 4)),(2,1,(.t 27)),(3,1,(.t 29))]) 30,
 ⟨.st 5 (.t 3) (.t 30),none,none⟩]
 [[],[0],[],[2],[1,3],[4,3,0,1,2,3,4]]
 [[],[0],[],[2],[0,1,2,3],[0,1,2,3,4]])
 (sR [oF 3 3 31,
 oL 31 32,
 oF 4 3 33,
 ⟨.st 1 (.t 33) (.t 32),none,none⟩]
 (.seq (sR [oV 0 34,
 mo (.call (.f 84) [(.t 34),(.c (.str [44]))] [1000] []) 35]
 (.cond (.t 35)
 (.note (.gc [0,2,3]) (.reg [oV 0 36,
 mo (.call (.f 106) [(.t 36)] [1000] []) 37,
 oF 4 3 38,
 ⟨.st 1 (.t 38) (.t 37),none,none⟩]))
 .skip))
 (.reg [oV 0 39,
 mo (.call (.f 103) [(.t 39),(.c (.str [125]))] [1000] []) 40]))))
 .skip))
 (sR [mo (.ld (some 5) (.t 3)) 41,
 ⟨.st 5 (.t 2) (.t 41),none,none⟩]
 .ret))
def mc_3:MC :=
 (sR [mo (.alloc [(.int .i64 0),(.sl []),(.sl []),(.int .i64 0),(.int .i64 0)]) 2]
 (sR [mo (.alloc [(.int .i64 0),(.sl []),(.sl []),(.int .i64 0),(.int .i64 0)]) 3]
 (.cut (.block 0
 (sR [oV 0 13,
 mo (.call (.f 84) [(.t 13),(.c (.str [40]))] [1000] []) 14,
 oV 14 12]
 (.cond (.t 12)
 (sR [oV 0 15,
 mo (.call (.f 69) [(.t 15)] [1000] []) 16,
 ⟨.st 5 (.t 3) (.t 16),none,none⟩]
 (.reg [oV 0 17,
 mo (.call (.f 103) [(.t 17),(.c (.str [41]))] [1000] []) 18]))
 (sR [oV 0 20,
 mo (.call (.f 84) [(.t 20),(.c (.str [91]))] [1000] []) 21,
 oV 21 19]
 (.cond (.t 19)
 (.reg [oV 0 22,
 mo (.call (.f 104) [(.t 22)] [1000] []) 23,
 ⟨.st 5 (.t 3) (.t 23),none,none⟩])
 (sR [oV 0 5,
 mo (.call (.f 105) [(.t 5)] [1000] []) 6,
 oV 6 4]
 (.note (.gc [0,2,3,4]) (.reg [oV 4 7,
 oV 4 8,
 mo (.build [(.int .u8 0),(.int .u8 0)] [(0,1,(.t 7)),(1,1,(.t 8))]) 9,
 mo (.bslice 2 [(.t 9)]) 10,
 mo (.build [(.int .i64 0),(.sl []),(.sl []),(.int .i64 0),(.int .i64 0)] [(0,1,(cI 1)),(1,1,(.t 10))]) 11,
 ⟨.st 5 (.t 3) (.t 11),none,none⟩]))))))))
 mc_3n)))
theorem Wq_3 {n:Nat} (ih_pattern_reader_item:∀{r_:Greader} {y:GNode×Greader},FR_3 n r_=some y→ACall Tryz.prog 93 [.ptr 1000 0] [(1000,.cells [.str r_.text_,.bool r_.wrong_,.int .i64 r_.deep_])] (fun r H=>r=GNode.v y.1∧H=[(1000,.cells [.str y.2.text_,.bool y.2.wrong_,.int .i64 y.2.deep_])])) (ih_pattern_reader_list_of_pattern_reader_item_of_pattern_reader_more:∀{r_:Greader} {op_:Int} {y:GNode×Greader},FR_d n r_ op_=some y→ACall Tryz.prog 81 [.ptr 1000 0,.int .i64 op_,.fn (.yield 93) [.ptr 1000 0],.fn (.yield 94) [.ptr 1000 0]] [(1000,.cells [.str r_.text_,.bool r_.wrong_,.int .i64 r_.deep_])] (fun r H=>r=GNode.v y.1∧H=[(1000,.cells [.str y.2.text_,.bool y.2.wrong_,.int .i64 y.2.deep_])])) (ih_pattern_reader_sequence:∀{r_:Greader} {y:GNode×Greader},FR_5 n r_=some y→ACall Tryz.prog 82 [.ptr 1000 0] [(1000,.cells [.str r_.text_,.bool r_.wrong_,.int .i64 r_.deep_])] (fun r H=>r=GNode.v y.1∧H=[(1000,.cells [.str y.2.text_,.bool y.2.wrong_,.int .i64 y.2.deep_])])) (ih_pattern_reader_list_of_pattern_reader_sequence_of_pattern_reader_choice_1:∀{r_:Greader} {op_:Int} {y:GNode×Greader},FR_k n r_ op_=some y→ACall Tryz.prog 81 [.ptr 1000 0,.int .i64 op_,.fn (.yield 82) [.ptr 1000 0],.fn (.func 83) [.ptr 1001 0]] [(1000,.cells [.str r_.text_,.bool r_.wrong_,.int .i64 r_.deep_]),(1001,.cells [.ptr 1000 0])] (fun r H=>r=GNode.v y.1∧H=[(1000,.cells [.str y.2.text_,.bool y.2.wrong_,.int .i64 y.2.deep_]),(1001,.cells [.ptr 1000 0])])) (ih_pattern_reader_choice:∀{r_:Greader} {y:GNode×Greader},FR_2 n r_=some y→ACall Tryz.prog 69 [.ptr 1000 0] [(1000,.cells [.str r_.text_,.bool r_.wrong_,.int .i64 r_.deep_])] (fun r H=>r=GNode.v y.1∧H=[(1000,.cells [.str y.2.text_,.bool y.2.wrong_,.int .i64 y.2.deep_])])) (r_:Greader) {Q:GNode×Greader→Prop} {Q':V→Heap→Prop} (h:Ok (FR_3 (n+1) r_) Q) (hQ:∀z,Q z→Q' (GNode.v z.1) [(1000,.cells [.str z.2.text_,.bool z.2.wrong_,.int .i64 z.2.deep_])]):ACall Tryz.prog 93 [.ptr 1000 0] [(1000,.cells [.str r_.text_,.bool r_.wrong_,.int .i64 r_.deep_])] Q':=by
 refine acallM mc_3 [.fzc 2] [1000] [.c 2 (some 5)] Tryz.func93 fun M=>?_
 simp only [FR_3] at h
 unfold mc_3
 replace h:=tY h
 refine tB ?_
 repeat' (first
 | (exact tZ)
 | ((first|refine oblg h ?_|refine roomG h ?_|refine fork h ?_ ?_|refine forkS h ?_ ?_)<;>clear h<;>intro hc h)
 | (obtain ⟨y,hy,h⟩:=h;(first|with_reducible first|have hw:=Wq_0.w hy|have hw:=ih_pattern_reader_choice hy|have hw:=Wq_m.w hy|have hw:=Wq_12.w hy|have hw:=Wq_t.w hy|have hw:=Wq_u.w hy);replace hw:=tY hw;(first|refine M.sC hw ?_|refine M.sD hw ?_);clear hw hy;refine tB ?_)
 | (refine M.jn1 (b:=mc_3n) [0,2,3] [2] (fun y=>[]) (fun y=>[.o 3 (.cells [.int .i64 y.1.Op,.sl (y.1.Ranges.map GRange.v),.sl (y.1.Kids.map GNode.v),.int .i64 y.1.Min,.int .i64 y.1.Max]),.o 1000 (.cells [.str y.2.text_,.bool y.2.wrong_,.int .i64 y.2.deep_])]) [.fzc 3] h ?_ ?_<;>first
 | (clear h;intro Qn K hK1 h;replace h:=tY h;refine tB ?_)
  |(clear h;intro y h;unfold mc_3n;replace h:=tY h;refine tB ?_))
 | (refine hK1 _ ?_;(try refine tB ?_);refine ⟨_,h,?_⟩;exact tU0;done)
 | (refine tE ?_;(first|rw [M.lok_compU]|rw [M.lokD_compU]);refine tB ?_)
 | (refine tA ?_)
 | fail)
@[irreducible] def mc_3o:MC :=
 (.seq (sR [oV 0 15,
 mo (.nck (.t 15)) 16,
 oF 1 16 17,
 oL 17 18,
 mo (.not (.t 18)) 19,
 oV 19 20,
 gT 20 21 (.mv (.t 3)),
 gT 20 22 (.call (.t 21) [] [1000] []),
 mo (.pick (.t 20) (.t 22) (.c (.bool false))) 23]
 (.cond (.t 23)
 .skip
 (.exit 0)))
 (.block 1
 (.regD [oF 2 9 24,
 oL 24 25,
 oV 2 26,
 mo (.call (.t 26) [] [1000] []) 27,
 mo (.bslice 5 [(.t 27)]) 28,
 mo (.app 5 72 (.t 25) (.t 28)) 29,
 oF 2 9 30,
 ⟨.st 1 (.t 30) (.t 29),none,none⟩]
 [[],[0],[],[2],[3],[1,4,3],[0,1,2,3,4,5],[6,5,5,0,1,2,3,4,5]]
 [[],[0],[],[2],[2,3],[0,1,2,3,4],[0,1,2,3,4,5],[0,1,2,3,4,5,6]])))
def mc_d:MC :=
 (sR [mo (.alloc [(.int .i64 0),(.sl []),(.sl []),(.int .i64 0),(.int .i64 0)]) 8]
 (sR [oV 1 10,
 oV 2 11,
 mo (.call (.t 11) [] [1000] []) 12,
 mo (.bslice 5 [(.t 12)]) 13,
 mo (.build [(.int .i64 0),(.sl []),(.sl []),(.int .i64 0),(.int .i64 0)] [(0,1,(.t 10)),(2,1,(.t 13))]) 14,
 mo (.alloc [(.int .i64 0),(.sl []),(.sl []),(.int .i64 0),(.int .i64 0)]) 9,
 ⟨.st 5 (.t 9) (.t 14),none,none⟩]
 (.seq (.block 0
 (.loop mc_3o))
 (.seq (sR [oF 2 9 31,
 oL 31 32,
 mo (.len false (.t 32)) 33,
 mo (.bin false .eql (.t 33) (cI 1)) 34]
 (.cond (.t 34)
 (sR [oF 2 9 35,
 oL 35 36,
 mo (.iad 5 (.t 36) (cI 0)) 37,
 mo (.ld (some 5) (.t 37)) 38,
 ⟨.st 5 (.t 8) (.t 38),none,none⟩]
 .ret)
 .skip))
 (sR [mo (.ld (some 5) (.t 9)) 39,
 ⟨.st 5 (.t 8) (.t 39),none,none⟩]
 .ret)))))
theorem Wq_d {n:Nat} (ih_pattern_reader_item:∀{r_:Greader} {y:GNode×Greader},FR_3 n r_=some y→ACall Tryz.prog 93 [.ptr 1000 0] [(1000,.cells [.str r_.text_,.bool r_.wrong_,.int .i64 r_.deep_])] (fun r H=>r=GNode.v y.1∧H=[(1000,.cells [.str y.2.text_,.bool y.2.wrong_,.int .i64 y.2.deep_])])) (ih_pattern_reader_list_of_pattern_reader_item_of_pattern_reader_more:∀{r_:Greader} {op_:Int} {y:GNode×Greader},FR_d n r_ op_=some y→ACall Tryz.prog 81 [.ptr 1000 0,.int .i64 op_,.fn (.yield 93) [.ptr 1000 0],.fn (.yield 94) [.ptr 1000 0]] [(1000,.cells [.str r_.text_,.bool r_.wrong_,.int .i64 r_.deep_])] (fun r H=>r=GNode.v y.1∧H=[(1000,.cells [.str y.2.text_,.bool y.2.wrong_,.int .i64 y.2.deep_])])) (ih_pattern_reader_sequence:∀{r_:Greader} {y:GNode×Greader},FR_5 n r_=some y→ACall Tryz.prog 82 [.ptr 1000 0] [(1000,.cells [.str r_.text_,.bool r_.wrong_,.int .i64 r_.deep_])] (fun r H=>r=GNode.v y.1∧H=[(1000,.cells [.str y.2.text_,.bool y.2.wrong_,.int .i64 y.2.deep_])])) (ih_pattern_reader_list_of_pattern_reader_sequence_of_pattern_reader_choice_1:∀{r_:Greader} {op_:Int} {y:GNode×Greader},FR_k n r_ op_=some y→ACall Tryz.prog 81 [.ptr 1000 0,.int .i64 op_,.fn (.yield 82) [.ptr 1000 0],.fn (.func 83) [.ptr 1001 0]] [(1000,.cells [.str r_.text_,.bool r_.wrong_,.int .i64 r_.deep_]),(1001,.cells [.ptr 1000 0])] (fun r H=>r=GNode.v y.1∧H=[(1000,.cells [.str y.2.text_,.bool y.2.wrong_,.int .i64 y.2.deep_]),(1001,.cells [.ptr 1000 0])])) (ih_pattern_reader_choice:∀{r_:Greader} {y:GNode×Greader},FR_2 n r_=some y→ACall Tryz.prog 69 [.ptr 1000 0] [(1000,.cells [.str r_.text_,.bool r_.wrong_,.int .i64 r_.deep_])] (fun r H=>r=GNode.v y.1∧H=[(1000,.cells [.str y.2.text_,.bool y.2.wrong_,.int .i64 y.2.deep_])])) (r_:Greader) (op_:Int) {Q:GNode×Greader→Prop} {Q':V→Heap→Prop} (h:Ok (FR_d (n+1) r_ op_) Q) (hQ:∀z,Q z→Q' (GNode.v z.1) [(1000,.cells [.str z.2.text_,.bool z.2.wrong_,.int .i64 z.2.deep_])]):ACall Tryz.prog 81 [.ptr 1000 0,.int .i64 op_,.fn (.yield 93) [.ptr 1000 0],.fn (.yield 94) [.ptr 1000 0]] [(1000,.cells [.str r_.text_,.bool r_.wrong_,.int .i64 r_.deep_])] Q':=by
 refine acallM mc_d [.fzc 8] [1000] [.c 8 (some 5)] Tryz.func81 fun M=>?_
 simp only [FR_d] at h
 unfold mc_d
 replace h:=tY h
 refine tB ?_
 repeat' (first
 | (exact tZ)
 | ((first|refine oblg h ?_|refine roomG h ?_|refine fork h ?_ ?_|refine forkS h ?_ ?_)<;>clear h<;>intro hc h)
 | (obtain ⟨y,hy,h⟩:=h;(first|with_reducible first|have hw:=ih_pattern_reader_item hy|have hw:=Wq_v.w hy);replace hw:=tY hw;(first|refine M.sC hw ?_|refine M.sD hw ?_|refine M.sY hw ?_|refine M.sYD hw ?_);clear hw hy;refine tB ?_)
 | (refine M.wh1 (b:=mc_3o) [0,2,3,8,9] [9,8] (fun x=>[]) (fun x=>[.p 9 0 [.int .i64 x.1],.p 9 2 [.osl 4146 5 0 x.2.1.length],.o 4146 (.arr 5 (x.2.1.map GNode.v)),.o 1000 (.cells [.str x.2.2.text_,.bool x.2.2.wrong_,.int .i64 x.2.2.deep_])]) [.gc [0,2,3,8,9],.ownC 9 2 4146 5 none] h ?_ ?_<;>first
 | (clear h;intro x Qn K hK1 h;unfold mc_3o;replace h:=tY h;refine tB ?_)
  |(clear h;(try refine tB ?_);exact tU0;done))
 | (refine hK1 _ ?_;(try refine tB ?_);refine ⟨_,h,?_⟩;exact tU0;done)
 | (refine tE ?_;(first|rw [M.lok_compU]|rw [M.lokD_compU]);refine tB ?_)
 | (refine tA ?_)
 | fail)
def mc_5:MC :=
 (sR [mo (.alloc [(.int .i64 0),(.sl []),(.sl []),(.int .i64 0),(.int .i64 0)]) 2]
 (sR [oV 0 3,
 oV 0 4,
 mo (.mp (.bnd 93) [(.t 4)]) 5,
 oV 0 6,
 mo (.mp (.bnd 94) [(.t 6)]) 7,
 mo (.call (.f 81) [(.t 3),(cI 2),(.t 5),(.t 7)] [1000] []) 8,
 ⟨.st 5 (.t 2) (.t 8),none,none⟩]
 .ret))
theorem Wq_5 {n:Nat} (ih_pattern_reader_item:∀{r_:Greader} {y:GNode×Greader},FR_3 n r_=some y→ACall Tryz.prog 93 [.ptr 1000 0] [(1000,.cells [.str r_.text_,.bool r_.wrong_,.int .i64 r_.deep_])] (fun r H=>r=GNode.v y.1∧H=[(1000,.cells [.str y.2.text_,.bool y.2.wrong_,.int .i64 y.2.deep_])])) (ih_pattern_reader_list_of_pattern_reader_item_of_pattern_reader_more:∀{r_:Greader} {op_:Int} {y:GNode×Greader},FR_d n r_ op_=some y→ACall Tryz.prog 81 [.ptr 1000 0,.int .i64 op_,.fn (.yield 93) [.ptr 1000 0],.fn (.yield 94) [.ptr 1000 0]] [(1000,.cells [.str r_.text_,.bool r_.wrong_,.int .i64 r_.deep_])] (fun r H=>r=GNode.v y.1∧H=[(1000,.cells [.str y.2.text_,.bool y.2.wrong_,.int .i64 y.2.deep_])])) (ih_pattern_reader_sequence:∀{r_:Greader} {y:GNode×Greader},FR_5 n r_=some y→ACall Tryz.prog 82 [.ptr 1000 0] [(1000,.cells [.str r_.text_,.bool r_.wrong_,.int .i64 r_.deep_])] (fun r H=>r=GNode.v y.1∧H=[(1000,.cells [.str y.2.text_,.bool y.2.wrong_,.int .i64 y.2.deep_])])) (ih_pattern_reader_list_of_pattern_reader_sequence_of_pattern_reader_choice_1:∀{r_:Greader} {op_:Int} {y:GNode×Greader},FR_k n r_ op_=some y→ACall Tryz.prog 81 [.ptr 1000 0,.int .i64 op_,.fn (.yield 82) [.ptr 1000 0],.fn (.func 83) [.ptr 1001 0]] [(1000,.cells [.str r_.text_,.bool r_.wrong_,.int .i64 r_.deep_]),(1001,.cells [.ptr 1000 0])] (fun r H=>r=GNode.v y.1∧H=[(1000,.cells [.str y.2.text_,.bool y.2.wrong_,.int .i64 y.2.deep_]),(1001,.cells [.ptr 1000 0])])) (ih_pattern_reader_choice:∀{r_:Greader} {y:GNode×Greader},FR_2 n r_=some y→ACall Tryz.prog 69 [.ptr 1000 0] [(1000,.cells [.str r_.text_,.bool r_.wrong_,.int .i64 r_.deep_])] (fun r H=>r=GNode.v y.1∧H=[(1000,.cells [.str y.2.text_,.bool y.2.wrong_,.int .i64 y.2.deep_])])) (r_:Greader) {Q:GNode×Greader→Prop} {Q':V→Heap→Prop} (h:Ok (FR_5 (n+1) r_) Q) (hQ:∀z,Q z→Q' (GNode.v z.1) [(1000,.cells [.str z.2.text_,.bool z.2.wrong_,.int .i64 z.2.deep_])]):ACall Tryz.prog 82 [.ptr 1000 0] [(1000,.cells [.str r_.text_,.bool r_.wrong_,.int .i64 r_.deep_])] Q':=by
 refine acallM mc_5 [.fzc 2] [1000] [.c 2 (some 5)] Tryz.func82 fun M=>?_
 simp only [FR_5] at h
 unfold mc_5
 replace h:=tY h
 refine tB ?_
 repeat' (first
 | (exact tZ)
 | ((first|refine oblg h ?_|refine roomG h ?_|refine fork h ?_ ?_|refine forkS h ?_ ?_)<;>clear h<;>intro hc h)
 | (obtain ⟨y,hy,h⟩:=h;have hw:=ih_pattern_reader_list_of_pattern_reader_item_of_pattern_reader_more hy;replace hw:=tY hw;(first|refine M.sC hw ?_|refine M.sD hw ?_);clear hw hy;refine tB ?_)
 | (refine tE ?_;(first|rw [M.lok_compU]|rw [M.lokD_compU]);refine tB ?_)
 | (refine tA ?_)
 | fail)
@[irreducible] def mc_3p:MC :=
 (.seq (sR [oV 0 15,
 mo (.nck (.t 15)) 16,
 oF 1 16 17,
 oL 17 18,
 mo (.not (.t 18)) 19,
 oV 19 20,
 gT 20 21 (.mv (.t 3)),
 gT 20 22 (.call (.t 21) [] [1001,1000] []),
 mo (.pick (.t 20) (.t 22) (.c (.bool false))) 23]
 (.cond (.t 23)
 .skip
 (.exit 0)))
 (.block 1
 (.regD [oF 2 9 24,
 oL 24 25,
 oV 2 26,
 mo (.call (.t 26) [] [1000] []) 27,
 mo (.bslice 5 [(.t 27)]) 28,
 mo (.app 5 72 (.t 25) (.t 28)) 29,
 oF 2 9 30,
 ⟨.st 1 (.t 30) (.t 29),none,none⟩]
 [[],[0],[],[2],[3],[1,4,3],[0,1,2,3,4,5],[6,5,5,0,1,2,3,4,5]]
 [[],[0],[],[2],[2,3],[0,1,2,3,4],[0,1,2,3,4,5],[0,1,2,3,4,5,6]])))
def mc_k:MC :=
 (sR [mo (.alloc [(.int .i64 0),(.sl []),(.sl []),(.int .i64 0),(.int .i64 0)]) 8]
 (sR [oV 1 10,
 oV 2 11,
 mo (.call (.t 11) [] [1000] []) 12,
 mo (.bslice 5 [(.t 12)]) 13,
 mo (.build [(.int .i64 0),(.sl []),(.sl []),(.int .i64 0),(.int .i64 0)] [(0,1,(.t 10)),(2,1,(.t 13))]) 14,
 mo (.alloc [(.int .i64 0),(.sl []),(.sl []),(.int .i64 0),(.int .i64 0)]) 9,
 ⟨.st 5 (.t 9) (.t 14),none,none⟩]
 (.seq (.block 0
 (.loop mc_3p))
 (.seq (sR [oF 2 9 31,
 oL 31 32,
 mo (.len false (.t 32)) 33,
 mo (.bin false .eql (.t 33) (cI 1)) 34]
 (.cond (.t 34)
 (sR [oF 2 9 35,
 oL 35 36,
 mo (.iad 5 (.t 36) (cI 0)) 37,
 mo (.ld (some 5) (.t 37)) 38,
 ⟨.st 5 (.t 8) (.t 38),none,none⟩]
 .ret)
 .skip))
 (sR [mo (.ld (some 5) (.t 9)) 39,
 ⟨.st 5 (.t 8) (.t 39),none,none⟩]
 .ret)))))
theorem Wq_k {n:Nat} (ih_pattern_reader_item:∀{r_:Greader} {y:GNode×Greader},FR_3 n r_=some y→ACall Tryz.prog 93 [.ptr 1000 0] [(1000,.cells [.str r_.text_,.bool r_.wrong_,.int .i64 r_.deep_])] (fun r H=>r=GNode.v y.1∧H=[(1000,.cells [.str y.2.text_,.bool y.2.wrong_,.int .i64 y.2.deep_])])) (ih_pattern_reader_list_of_pattern_reader_item_of_pattern_reader_more:∀{r_:Greader} {op_:Int} {y:GNode×Greader},FR_d n r_ op_=some y→ACall Tryz.prog 81 [.ptr 1000 0,.int .i64 op_,.fn (.yield 93) [.ptr 1000 0],.fn (.yield 94) [.ptr 1000 0]] [(1000,.cells [.str r_.text_,.bool r_.wrong_,.int .i64 r_.deep_])] (fun r H=>r=GNode.v y.1∧H=[(1000,.cells [.str y.2.text_,.bool y.2.wrong_,.int .i64 y.2.deep_])])) (ih_pattern_reader_sequence:∀{r_:Greader} {y:GNode×Greader},FR_5 n r_=some y→ACall Tryz.prog 82 [.ptr 1000 0] [(1000,.cells [.str r_.text_,.bool r_.wrong_,.int .i64 r_.deep_])] (fun r H=>r=GNode.v y.1∧H=[(1000,.cells [.str y.2.text_,.bool y.2.wrong_,.int .i64 y.2.deep_])])) (ih_pattern_reader_list_of_pattern_reader_sequence_of_pattern_reader_choice_1:∀{r_:Greader} {op_:Int} {y:GNode×Greader},FR_k n r_ op_=some y→ACall Tryz.prog 81 [.ptr 1000 0,.int .i64 op_,.fn (.yield 82) [.ptr 1000 0],.fn (.func 83) [.ptr 1001 0]] [(1000,.cells [.str r_.text_,.bool r_.wrong_,.int .i64 r_.deep_]),(1001,.cells [.ptr 1000 0])] (fun r H=>r=GNode.v y.1∧H=[(1000,.cells [.str y.2.text_,.bool y.2.wrong_,.int .i64 y.2.deep_]),(1001,.cells [.ptr 1000 0])])) (ih_pattern_reader_choice:∀{r_:Greader} {y:GNode×Greader},FR_2 n r_=some y→ACall Tryz.prog 69 [.ptr 1000 0] [(1000,.cells [.str r_.text_,.bool r_.wrong_,.int .i64 r_.deep_])] (fun r H=>r=GNode.v y.1∧H=[(1000,.cells [.str y.2.text_,.bool y.2.wrong_,.int .i64 y.2.deep_])])) (r_:Greader) (op_:Int) {Q:GNode×Greader→Prop} {Q':V→Heap→Prop} (h:Ok (FR_k (n+1) r_ op_) Q) (hQ:∀z,Q z→Q' (GNode.v z.1) [(1000,.cells [.str z.2.text_,.bool z.2.wrong_,.int .i64 z.2.deep_]),(1001,.cells [.ptr 1000 0])]):ACall Tryz.prog 81 [.ptr 1000 0,.int .i64 op_,.fn (.yield 82) [.ptr 1000 0],.fn (.func 83) [.ptr 1001 0]] [(1000,.cells [.str r_.text_,.bool r_.wrong_,.int .i64 r_.deep_]),(1001,.cells [.ptr 1000 0])] Q':=by
 refine acallM mc_k [.fzc 8] [1000,1001] [.c 8 (some 5)] Tryz.func81 fun M=>?_
 simp only [FR_k] at h
 unfold mc_k
 replace h:=tY h
 refine tB ?_
 repeat' (first
 | (exact tZ)
 | ((first|refine oblg h ?_|refine roomG h ?_|refine fork h ?_ ?_|refine forkS h ?_ ?_)<;>clear h<;>intro hc h)
 | (obtain ⟨y,hy,h⟩:=h;(first|(with_reducible first|have hw:=ih_pattern_reader_sequence hy)|have hw:=acall_swe 1000 1001 (Wq_x.w hy));replace hw:=tY hw;(first|refine M.sC hw ?_|refine M.sD hw ?_|refine M.sY hw ?_|refine M.sYD hw ?_);clear hw hy;refine tB ?_)
 | (refine M.wh1 (b:=mc_3p) [0,2,3,8,9] [9,8,1001] (fun x=>[]) (fun x=>[.p 9 0 [.int .i64 x.1],.p 9 2 [.osl 4146 5 0 x.2.1.length],.o 4146 (.arr 5 (x.2.1.map GNode.v)),.o 1000 (.cells [.str x.2.2.text_,.bool x.2.2.wrong_,.int .i64 x.2.2.deep_])]) [.gc [0,2,3,8,9],.ownC 9 2 4146 5 none] h ?_ ?_<;>first
 | (clear h;intro x Qn K hK1 h;unfold mc_3p;replace h:=tY h;refine tB ?_)
  |(clear h;(try refine tB ?_);exact tU0;done))
 | (refine hK1 _ ?_;(try refine tB ?_);refine ⟨_,h,?_⟩;exact tU0;done)
 | (refine tE ?_;(first|rw [M.lok_compU]|rw [M.lokD_compU]);refine tB ?_)
 | (refine tA ?_)
 | fail)
def mc_2:MC :=
 (sR [mo (.box (.t 0)) 1,
 mo (.alloc [(.int .i64 0),(.sl []),(.sl []),(.int .i64 0),(.int .i64 0)]) 2]
 (sR [oL 1 4,
 mo (.nck (.t 4)) 5,
 oF 2 5 6,
 oL 6 7,
 mo (.bin true .add (.t 7) (cI 1)) 8,
 mo (.nck (.t 4)) 9,
 oF 2 9 10,
 ⟨.st 1 (.t 10) (.t 8),none,none⟩]
 (.seq (.seq (.note (.gc [1,2]) (.reg [oL 1 11,
 mo (.nck (.t 11)) 12,
 oF 2 12 13,
 oL 13 14,
 mo (.bin false .gtr (.t 14) (cI 20)) 15]))
 (.cond (.t 15)
 (sR [oL 1 16,
 mo (.nck (.t 16)) 17,
 oF 1 17 18,
 ⟨.st 1 (.t 18) (.c (.bool true)),none,none⟩]
 (sR [mo (.build [(.int .i64 0),(.sl []),(.sl []),(.int .i64 0),(.int .i64 0)] []) 19,
 ⟨.st 5 (.t 2) (.t 19),none,none⟩]
 .ret))
 .skip))
 (sR [oL 1 20,
 oL 1 21,
 mo (.mp (.bnd 82) [(.t 21)]) 22,
 mo (.mkfn 83 [(.t 1)]) 23,
 mo (.call (.f 81) [(.t 20),(cI 3),(.t 22),(.t 23)] [1000,1] []) 24,
 mo (.alloc [(.int .i64 0),(.sl []),(.sl []),(.int .i64 0),(.int .i64 0)]) 3,
 ⟨.st 5 (.t 3) (.t 24),none,none⟩]
 (.seq (.note (.gc [1,2,3]) (.reg [oL 1 25,
 mo (.nck (.t 25)) 26,
 oF 2 26 27,
 oL 27 28,
 mo (.bin true .sub (.t 28) (cI 1)) 29,
 mo (.nck (.t 25)) 30,
 oF 2 30 31,
 ⟨.st 1 (.t 31) (.t 29),none,none⟩]))
 (sR [mo (.ld (some 5) (.t 3)) 32,
 ⟨.st 5 (.t 2) (.t 32),none,none⟩]
 .ret))))))
theorem Wq_2 {n:Nat} (ih_pattern_reader_item:∀{r_:Greader} {y:GNode×Greader},FR_3 n r_=some y→ACall Tryz.prog 93 [.ptr 1000 0] [(1000,.cells [.str r_.text_,.bool r_.wrong_,.int .i64 r_.deep_])] (fun r H=>r=GNode.v y.1∧H=[(1000,.cells [.str y.2.text_,.bool y.2.wrong_,.int .i64 y.2.deep_])])) (ih_pattern_reader_list_of_pattern_reader_item_of_pattern_reader_more:∀{r_:Greader} {op_:Int} {y:GNode×Greader},FR_d n r_ op_=some y→ACall Tryz.prog 81 [.ptr 1000 0,.int .i64 op_,.fn (.yield 93) [.ptr 1000 0],.fn (.yield 94) [.ptr 1000 0]] [(1000,.cells [.str r_.text_,.bool r_.wrong_,.int .i64 r_.deep_])] (fun r H=>r=GNode.v y.1∧H=[(1000,.cells [.str y.2.text_,.bool y.2.wrong_,.int .i64 y.2.deep_])])) (ih_pattern_reader_sequence:∀{r_:Greader} {y:GNode×Greader},FR_5 n r_=some y→ACall Tryz.prog 82 [.ptr 1000 0] [(1000,.cells [.str r_.text_,.bool r_.wrong_,.int .i64 r_.deep_])] (fun r H=>r=GNode.v y.1∧H=[(1000,.cells [.str y.2.text_,.bool y.2.wrong_,.int .i64 y.2.deep_])])) (ih_pattern_reader_list_of_pattern_reader_sequence_of_pattern_reader_choice_1:∀{r_:Greader} {op_:Int} {y:GNode×Greader},FR_k n r_ op_=some y→ACall Tryz.prog 81 [.ptr 1000 0,.int .i64 op_,.fn (.yield 82) [.ptr 1000 0],.fn (.func 83) [.ptr 1001 0]] [(1000,.cells [.str r_.text_,.bool r_.wrong_,.int .i64 r_.deep_]),(1001,.cells [.ptr 1000 0])] (fun r H=>r=GNode.v y.1∧H=[(1000,.cells [.str y.2.text_,.bool y.2.wrong_,.int .i64 y.2.deep_]),(1001,.cells [.ptr 1000 0])])) (ih_pattern_reader_choice:∀{r_:Greader} {y:GNode×Greader},FR_2 n r_=some y→ACall Tryz.prog 69 [.ptr 1000 0] [(1000,.cells [.str r_.text_,.bool r_.wrong_,.int .i64 r_.deep_])] (fun r H=>r=GNode.v y.1∧H=[(1000,.cells [.str y.2.text_,.bool y.2.wrong_,.int .i64 y.2.deep_])])) (r_:Greader) {Q:GNode×Greader→Prop} {Q':V→Heap→Prop} (h:Ok (FR_2 (n+1) r_) Q) (hQ:∀z,Q z→Q' (GNode.v z.1) [(1000,.cells [.str z.2.text_,.bool z.2.wrong_,.int .i64 z.2.deep_])]):ACall Tryz.prog 69 [.ptr 1000 0] [(1000,.cells [.str r_.text_,.bool r_.wrong_,.int .i64 r_.deep_])] Q':=by
 refine acallM mc_2 [.fzc 2] [1000] [.c 2 (some 5)] Tryz.func69 fun M=>?_
 simp only [FR_2] at h
 unfold mc_2
 replace h:=tY h
 refine tB ?_
 repeat' (first
 | (exact tZ)
 | ((first|refine oblg h ?_|refine roomG h ?_|refine fork h ?_ ?_|refine forkS h ?_ ?_)<;>clear h<;>intro hc h)
 | (obtain ⟨y,hy,h⟩:=h;have hw:=acall_swe 1001 1 (ih_pattern_reader_list_of_pattern_reader_sequence_of_pattern_reader_choice_1 hy);replace hw:=tY hw;(first|refine M.sC hw ?_|refine M.sD hw ?_);clear hw hy;refine tB ?_)
 | (refine tE ?_;(first|rw [M.lok_compU]|rw [M.lokD_compU]);refine tB ?_)
 | (refine tA ?_)
 | fail)
theorem WG_5t:∀n,(∀{r_:Greader} {y:GNode×Greader},FR_3 n r_=some y→ACall Tryz.prog 93 [.ptr 1000 0] [(1000,.cells [.str r_.text_,.bool r_.wrong_,.int .i64 r_.deep_])] (fun r H=>r=GNode.v y.1∧H=[(1000,.cells [.str y.2.text_,.bool y.2.wrong_,.int .i64 y.2.deep_])]))∧(∀{r_:Greader} {op_:Int} {y:GNode×Greader},FR_d n r_ op_=some y→ACall Tryz.prog 81 [.ptr 1000 0,.int .i64 op_,.fn (.yield 93) [.ptr 1000 0],.fn (.yield 94) [.ptr 1000 0]] [(1000,.cells [.str r_.text_,.bool r_.wrong_,.int .i64 r_.deep_])] (fun r H=>r=GNode.v y.1∧H=[(1000,.cells [.str y.2.text_,.bool y.2.wrong_,.int .i64 y.2.deep_])]))∧(∀{r_:Greader} {y:GNode×Greader},FR_5 n r_=some y→ACall Tryz.prog 82 [.ptr 1000 0] [(1000,.cells [.str r_.text_,.bool r_.wrong_,.int .i64 r_.deep_])] (fun r H=>r=GNode.v y.1∧H=[(1000,.cells [.str y.2.text_,.bool y.2.wrong_,.int .i64 y.2.deep_])]))∧(∀{r_:Greader} {op_:Int} {y:GNode×Greader},FR_k n r_ op_=some y→ACall Tryz.prog 81 [.ptr 1000 0,.int .i64 op_,.fn (.yield 82) [.ptr 1000 0],.fn (.func 83) [.ptr 1001 0]] [(1000,.cells [.str r_.text_,.bool r_.wrong_,.int .i64 r_.deep_]),(1001,.cells [.ptr 1000 0])] (fun r H=>r=GNode.v y.1∧H=[(1000,.cells [.str y.2.text_,.bool y.2.wrong_,.int .i64 y.2.deep_]),(1001,.cells [.ptr 1000 0])]))∧(∀{r_:Greader} {y:GNode×Greader},FR_2 n r_=some y→ACall Tryz.prog 69 [.ptr 1000 0] [(1000,.cells [.str r_.text_,.bool r_.wrong_,.int .i64 r_.deep_])] (fun r H=>r=GNode.v y.1∧H=[(1000,.cells [.str y.2.text_,.bool y.2.wrong_,.int .i64 y.2.deep_])]))
 | 0=>⟨fun hy=>(by simp only [FR_3] at hy;cases hy),fun hy=>(by simp only [FR_d] at hy;cases hy),fun hy=>(by simp only [FR_5] at hy;cases hy),fun hy=>(by simp only [FR_k] at hy;cases hy),fun hy=>(by simp only [FR_2] at hy;cases hy)⟩
 | n+1=>by
  obtain ⟨ih_pattern_reader_item,ih_pattern_reader_list_of_pattern_reader_item_of_pattern_reader_more,ih_pattern_reader_sequence,ih_pattern_reader_list_of_pattern_reader_sequence_of_pattern_reader_choice_1,ih_pattern_reader_choice⟩:=WG_5t n
  refine ⟨?_,?_,?_,?_,?_⟩
  ·exact fun hy=>Wq_3 ih_pattern_reader_item ih_pattern_reader_list_of_pattern_reader_item_of_pattern_reader_more ih_pattern_reader_sequence ih_pattern_reader_list_of_pattern_reader_sequence_of_pattern_reader_choice_1 ih_pattern_reader_choice _ (Q:=(·=_)) ⟨_,hy,rfl⟩ fun|_,rfl=>⟨rfl,rfl⟩
  ·exact fun hy=>Wq_d ih_pattern_reader_item ih_pattern_reader_list_of_pattern_reader_item_of_pattern_reader_more ih_pattern_reader_sequence ih_pattern_reader_list_of_pattern_reader_sequence_of_pattern_reader_choice_1 ih_pattern_reader_choice _ _ (Q:=(·=_)) ⟨_,hy,rfl⟩ fun|_,rfl=>⟨rfl,rfl⟩
  ·exact fun hy=>Wq_5 ih_pattern_reader_item ih_pattern_reader_list_of_pattern_reader_item_of_pattern_reader_more ih_pattern_reader_sequence ih_pattern_reader_list_of_pattern_reader_sequence_of_pattern_reader_choice_1 ih_pattern_reader_choice _ (Q:=(·=_)) ⟨_,hy,rfl⟩ fun|_,rfl=>⟨rfl,rfl⟩
  ·exact fun hy=>Wq_k ih_pattern_reader_item ih_pattern_reader_list_of_pattern_reader_item_of_pattern_reader_more ih_pattern_reader_sequence ih_pattern_reader_list_of_pattern_reader_sequence_of_pattern_reader_choice_1 ih_pattern_reader_choice _ _ (Q:=(·=_)) ⟨_,hy,rfl⟩ fun|_,rfl=>⟨rfl,rfl⟩
  ·exact fun hy=>Wq_2 ih_pattern_reader_item ih_pattern_reader_list_of_pattern_reader_item_of_pattern_reader_more ih_pattern_reader_sequence ih_pattern_reader_list_of_pattern_reader_sequence_of_pattern_reader_choice_1 ih_pattern_reader_choice _ (Q:=(·=_)) ⟨_,hy,rfl⟩ fun|_,rfl=>⟨rfl,rfl⟩
theorem W_2:∀{r_:Greader} {y:GNode×Greader},F_2 r_=some y→ACall Tryz.prog 69 [.ptr 1000 0] [(1000,.cells [.str r_.text_,.bool r_.wrong_,.int .i64 r_.deep_])] (fun r H=>r=GNode.v y.1∧H=[(1000,.cells [.str y.2.text_,.bool y.2.wrong_,.int .i64 y.2.deep_])]):=fun hy=>by
 obtain ⟨n,hn⟩:=lim_inv hy
 exact (WG_5t n).2.2.2.2 hn
noncomputable def F_1i (s_:Str):Option (GNode×Int) :=
 (F_2 (Greader.mk s_ false 0)).bind fun y2=>(F_18 y2.1).bind fun y12=>grp ((y2.2.wrong_||(!decide (y2.2.text_=[])))) fun b16=>grp ((b16||(!decide (y12.2=0)))) fun b17=>grp ((b17||(!decide (y12.1=s_)))) fun b18=>bif b18 then some ((GNode.mk 0 [] [] 0 0),4) else some (y2.1,0)
@[irreducible] def mg_3q:List MOp:=[gF 22 23 (.mv (.t 4)),
 gF 22 24 (.nck (.t 23)),
 gF 22 25 (.fad 0 (.t 24)),
 gF 22 26 (.ld none (.t 25)),
 gF 22 27 (.bin false .neq (.t 26) (.c (.str []))),
 mo (.pick (.t 22) (.c (.bool true)) (.t 27)) 28]
@[irreducible] def mg_3r:List MOp:=[gF 29 30 (.mv (.t 7)),
 gF 29 31 (.bin false .neq (.t 30) (cI 0)),
 mo (.pick (.t 29) (.c (.bool true)) (.t 31)) 32]
@[irreducible] def mg_3s:List MOp:=[gF 33 34 (.mv (.t 6)),
 gF 33 35 (.mv (.t 0)),
 gF 33 36 (.bin false .neq (.t 34) (.t 35)),
 mo (.pick (.t 33) (.c (.bool true)) (.t 36)) 37]
def mc_1i:MC :=
 (sR [mo (.alloc [(.int .i64 0),(.sl []),(.sl []),(.int .i64 0),(.int .i64 0)]) 2,
 oC 0 3]
 (sR [oV 0 8,
 mo (.build [(.str []),(.bool false),(.int .i64 0)] [(0,1,(.t 8))]) 9,
 mo (.box (.t 9)) 10,
 oV 10 4]
 (sR [oV 4 11,
 mo (.call (.f 69) [(.t 11)] [10] []) 12,
 mo (.alloc [(.int .i64 0),(.sl []),(.sl []),(.int .i64 0),(.int .i64 0)]) 5,
 ⟨.st 5 (.t 5) (.t 12),none,none⟩]
 (.seq (sR [mo (.ld (some 5) (.t 5)) 14,
 mo (.call (.f 23) [(.t 14)] [] []) 15,
 oV 15 13,
 mo (.ext 0 (.t 13)) 16,
 mo (.ext 1 (.t 13)) 17,
 oV 16 6,
 oV 17 7]
 (.seq (.note (.gc [0,2,4,5,6,7,23,24,25,26,27,30,31,34,35,36]) (.regI [.op (oV 4 18),
 .op (mo (.nck (.t 18)) 19),
 .op (oF 1 19 20),
 .op (oL 20 21),
 .op (oV 21 22),
 .grp mg_3q,
 .op (oV 28 29),
 .grp mg_3r,
 .op (oV 32 33),
 .grp mg_3s]))
 (.cond (.t 37)
 (.seq (.note (.gc [2]) (.reg [mo (.build [(.int .i64 0),(.sl []),(.sl []),(.int .i64 0),(.int .i64 0)] []) 38,
 ⟨.st 5 (.t 2) (.t 38),none,none⟩,
 oC 4 3]))
 .ret)
 .skip)))
 (.seq (.note (.gc [2,5]) (.reg [mo (.ld (some 5) (.t 5)) 39,
 ⟨.st 5 (.t 2) (.t 39),none,none⟩,
 oC 0 3]))
 .ret)))))
theorem Wq_1i {s_:Str}:Cn Tryz.prog 51 [.str s_] [] (F_1i s_) (fun z=>.tup [GNode.v z.1,.int .i64 z.2]) (fun z=>[]):=fun Q Q' h hQ=>by
 refine acallM mc_1i [.fzc 2] [] [.c 2 (some 5),.t 3] Tryz.func51 fun M=>?_
 unfold F_1i at h
 unfold mc_1i
 replace h:=tY h
 refine tB ?_
 repeat' (first
 | (exact tZ)
 | ((first|refine oblg h ?_|refine roomG h ?_|refine fork h ?_ ?_|refine forkS h ?_ ?_)<;>clear h<;>intro hc h)
 | (obtain ⟨y,hy,h⟩:=h;(first|(with_reducible first|have hw:=Wq_18.w hy)|have hw:=acall_swe 1000 10 (W_2 hy));replace hw:=tY hw;(first|refine M.sC hw ?_|refine M.sD hw ?_);clear hw hy;refine tB ?_)
 | (refine M.gv1 (ms:=mg_3s) 37 [34,35,36] h ?_ ?_<;>first
 | (clear h;intro K hK1;unfold mg_3s;refine tB ?_)
 | (clear h;intro b h;replace h:=tY h;refine tB ?_))
 | (refine M.gv1 (ms:=mg_3r) 32 [30,31] h ?_ ?_<;>first
 | (clear h;intro K hK2;unfold mg_3r;refine tB ?_)
 | (clear h;intro b h;replace h:=tY h;refine tB ?_))
 | (refine M.gv1 (ms:=mg_3q) 28 [23,24,25,26,27] h ?_ ?_<;>first
 | (clear h;intro K hK3;unfold mg_3q;refine tB ?_)
 | (clear h;intro b h;replace h:=tY h;refine tB ?_))
 | ((first|refine hK1 _ ?_|refine hK2 _ ?_|refine hK3 _ ?_);exact tU;done)
 | (refine bfork (fun hc=>?_) (fun hc=>?_))
 | (refine tE ?_;(first|rw [M.lok_compU]|rw [M.lokD_compU]);refine tB ?_)
 | (refine tA ?_)
 | fail)
noncomputable def F_1a (s_:Str):Option (GNode×Int) :=
 bif decide (4000<(s_.length:Int)) then some ((GNode.mk 0 [] [] 0 0),3) else (F_1i s_).bind fun y2=>some (y2.1,y2.2)
def mc_1a:MC :=
 (sR [mo (.alloc [(.int .i64 0),(.sl []),(.sl []),(.int .i64 0),(.int .i64 0)]) 2,
 oC 0 3]
 (.seq (sR [oV 0 4,
 mo (.len true (.t 4)) 5,
 mo (.bin false .gtr (.t 5) (cI 4000)) 6]
 (.cond (.t 6)
 (sR [mo (.build [(.int .i64 0),(.sl []),(.sl []),(.int .i64 0),(.int .i64 0)] []) 7,
 ⟨.st 5 (.t 2) (.t 7),none,none⟩,
 oC 3 3]
 .ret)
 .skip))
 (sR [oV 0 8,
 mo (.call (.f 51) [(.t 8)] [] []) 9,
 mo (.ext 0 (.t 9)) 10,
 mo (.ext 1 (.t 9)) 11,
 ⟨.st 5 (.t 2) (.t 10),none,none⟩,
 oV 11 3]
 .ret)))
theorem Wq_1a {s_:Str}:Cn Tryz.prog 27 [.str s_] [] (F_1a s_) (fun z=>.tup [GNode.v z.1,.int .i64 z.2]) (fun z=>[]):=fun Q Q' h hQ=>by
 refine acallM mc_1a [.fzc 2] [] [.c 2 (some 5),.t 3] Tryz.func27 fun M=>?_
 unfold F_1a at h
 unfold mc_1a
 replace h:=tY h
 refine tB ?_
 repeat' (first
 | (exact tZ)
 | ((first|refine oblg h ?_|refine roomG h ?_|refine fork h ?_ ?_|refine forkS h ?_ ?_)<;>clear h<;>intro hc h)
 | (obtain ⟨y,hy,h⟩:=h;have hw:=Wq_1i.w hy;replace hw:=tY hw;(first|refine M.sC hw ?_|refine M.sD hw ?_);clear hw hy;refine tB ?_)
 | (refine tE ?_;(first|rw [M.lok_compU]|rw [M.lokD_compU]);refine tB ?_)
 | (refine tA ?_)
 | fail)
def F_23:Option GNode :=
 (F_29 [97,98]).bind fun y2=>some y2
def mc_23:MC :=
 (sR [mo (.alloc [(.int .i64 0),(.sl []),(.sl []),(.int .i64 0),(.int .i64 0)]) 0]
 (sR [mo (.call (.f 25) [(.c (.str [97,98]))] [] []) 1,
 ⟨.st 5 (.t 0) (.t 1),none,none⟩]
 .ret))
theorem Wq_23:Cn Tryz.prog 47 [] [] F_23 (fun z=>GNode.v z) (fun z=>[]):=fun Q Q' h hQ=>by
 refine acallM mc_23 [.fzc 0] [] [.c 0 (some 5)] Tryz.func47 fun M=>?_
 unfold F_23 at h
 unfold mc_23
 replace h:=tY h
 refine tB ?_
 repeat' (first
 | (exact tZ)
 | ((first|refine oblg h ?_|refine roomG h ?_|refine fork h ?_ ?_|refine forkS h ?_ ?_)<;>clear h<;>intro hc h)
 | (obtain ⟨y,hy,h⟩:=h;have hw:=Wq_29.w hy;replace hw:=tY hw;(first|refine M.sC hw ?_|refine M.sD hw ?_);clear hw hy;refine tB ?_)
 | (refine tE ?_;(first|rw [M.lok_compU]|rw [M.lokD_compU]);refine tB ?_)
 | (refine tA ?_)
 | fail)
noncomputable def F_2a (s_:Str) (x11:Int×(List GNode)):Option (Fl (Int×(List GNode)) (List GNode)) :=
 bif decide (x11.1<(s_.length:Int)) then chk (inb x11.1 s_.length) (chk (inb x11.1 s_.length) (chk (room (x11.2.length+[(GNode.mk 1 [(GRange.mk (s_.getD (x11.1).toNat 0) (s_.getD (x11.1).toNat 0))] [] 0 0)].length) 72) (chk (in64 (x11.1+1)) (some (.nx ((x11.1+1),(x11.2++[(GNode.mk 1 [(GRange.mk (s_.getD (x11.1).toNat 0) (s_.getD (x11.1).toNat 0))] [] 0 0)]))))))) else some (.ex x11.2)
noncomputable def F_1u (s_:Str):Option GNode :=
 grp ((decide ((s_.length:Int)=0)||decide (100<(s_.length:Int)))) fun b4=>bif b4 then some (GNode.mk 0 [] [] 0 0) else (loop (F_2a s_) (0,[])).bind fun r12=>bif decide ((r12.length:Int)=1) then chk (inb 0 r12.length) (some (r12.getD 0 default)) else some (GNode.mk 2 [] r12 0 0)
@[irreducible] def mg_3t:List MOp:=[gF 8 9 (.mv (.t 0)),
 gF 8 10 (.len true (.t 9)),
 gF 8 11 (.bin false .gtr (.t 10) (cI 100)),
 mo (.pick (.t 8) (.c (.bool true)) (.t 11)) 12]
@[irreducible] def mc_2a:MC :=
 (.seq (sR [oV 4 14,
 oV 0 15,
 mo (.len true (.t 15)) 16,
 mo (.bin false .lss (.t 14) (.t 16)) 17]
 (.cond (.t 17)
 .skip
 (.exit 0)))
 (.seq (.block 1
 (.regD [oV 3 20,
 oV 0 21,
 oV 4 22,
 mo (.idx (.t 21) (.t 22)) 23,
 oV 0 24,
 oV 4 25,
 mo (.idx (.t 24) (.t 25)) 26,
 mo (.build [(.int .u8 0),(.int .u8 0)] [(0,1,(.t 23)),(1,1,(.t 26))]) 27,
 mo (.lsl 2 [(.t 27)]) 28,
 mo (.build [(.int .i64 0),(.sl []),(.sl []),(.int .i64 0),(.int .i64 0)] [(0,1,(cI 1)),(1,1,(.t 28))]) 29,
 mo (.bslice 5 [(.t 29)]) 30,
 mo (.app 5 72 (.t 20) (.t 30)) 31,
 oV 31 3]
 [[],[],[],[1,2],[],[],[4,5],[3,6],[7],[8],[9],[0,10],[11,11,0,1,2,3,4,5,6,7,8,9,10,11]]
 [[],[],[],[1,2],[],[],[4,5],[1,2,3,4,5,6],[1,2,3,4,5,6,7],[1,2,3,4,5,6,7,8],[1,2,3,4,5,6,7,8,9],[0,1,2,3,4,5,6,7,8,9,10],[0,1,2,3,4,5,6,7,8,9,10,11]]))
 (.note (.gc [0,2,3,4]) (.reg [oV 4 18,
 mo (.bin true .add (.t 18) (cI 1)) 19,
 oV 19 4]))))
def mc_1u:MC :=
 (sR [mo (.alloc [(.int .i64 0),(.sl []),(.sl []),(.int .i64 0),(.int .i64 0)]) 2]
 (.seq (.seq (.regI [.op (oV 0 5),
 .op (mo (.len true (.t 5)) 6),
 .op (mo (.bin false .eql (.t 6) (cI 0)) 7),
 .op (oV 7 8),
 .grp mg_3t])
 (.cond (.t 12)
 (sR [mo (.build [(.int .i64 0),(.sl []),(.sl []),(.int .i64 0),(.int .i64 0)] []) 13,
 ⟨.st 5 (.t 2) (.t 13),none,none⟩]
 .ret)
 .skip))
 (sR [mo (.mv (.c .nils)) 3]
 (.seq (sR [oC 0 4]
 (.block 0
 (.loop mc_2a)))
 (.seq (sR [oV 3 32,
 mo (.len false (.t 32)) 33,
 mo (.bin false .eql (.t 33) (cI 1)) 34]
 (.cond (.t 34)
 (sR [oV 3 35,
 mo (.iad 5 (.t 35) (cI 0)) 36,
 mo (.ld (some 5) (.t 36)) 37,
 ⟨.st 5 (.t 2) (.t 37),none,none⟩]
 .ret)
 .skip))
 (sR [oV 3 38,
 mo (.build [(.int .i64 0),(.sl []),(.sl []),(.int .i64 0),(.int .i64 0)] [(0,1,(cI 2)),(2,1,(.t 38))]) 39,
 ⟨.st 5 (.t 2) (.t 39),none,none⟩]
 .ret))))))
theorem Wq_1u {s_:Str}:Cn Tryz.prog 26 [.str s_] [] (F_1u s_) (fun z=>GNode.v z) (fun z=>[]):=fun Q Q' h hQ=>by
 refine acallM mc_1u [.fzc 2] [] [.c 2 (some 5)] Tryz.func26 fun M=>?_
 unfold F_1u at h
 unfold mc_1u
 replace h:=tY h
 refine tB ?_
 repeat' (first
 | (exact tZ)
 | ((first|refine oblg h ?_|refine roomG h ?_|refine fork h ?_ ?_|refine forkS h ?_ ?_)<;>clear h<;>intro hc h)
 | (refine M.wh1 (b:=mc_2a) [0,2] [2] (fun x=>[(3,.osl 2003 5 0 x.2.length),(4,.int .i64 x.1)]) (fun x=>[.o 2003 (.arr 5 (x.2.map GNode.v))]) [.gc [0,2,3,4],.acc 3 2003 5] h ?_ ?_<;>first
 | (clear h;intro x Qn K hK1 h;unfold F_2a at h;unfold mc_2a;replace h:=tY h;refine tB ?_)
  |(clear h;(try refine tB ?_);exact tU0;done))
 | (refine M.gv1 (ms:=mg_3t) 12 [9,10,11] h ?_ ?_<;>first
 | (clear h;intro K hK2;unfold mg_3t;refine tB ?_)
 | (clear h;intro b h;replace h:=tY h;refine tB ?_))
 | (refine hK1 _ ?_;(try refine tB ?_);refine ⟨_,h,?_⟩;exact tU0;done)
 | (refine hK2 _ ?_;exact tU;done)
 | (refine bfork (fun hc=>?_) (fun hc=>?_))
 | (refine tE ?_;(first|rw [M.lok_compU]|rw [M.lokD_compU]);refine tB ?_)
 | (refine tA ?_)
 | fail)
noncomputable def F_1p:Option Bool :=
 (F_1a [40,97,98,124,99,41,123,50,125]).bind fun y2=>jn (α:=Bool) (bif decide (y2.2=0) then (F_1r y2.1).bind fun y12=>some (decide (y12=4)) else some false) fun j13=>jn (α:=Bool) (bif j13 then (F_1s y2.1).bind fun y15=>some (decide (y15=2)) else some false) fun j16=>jn (α:=Bool) (bif j16 then F_23.bind fun y20=>(F_1u [97,98]).bind fun y21=>(F_s y20 y21).bind fun y22=>some y22 else some false) fun j23=>some j23
@[irreducible] def mg_3u:List MOp:=[gT 9 10 (.ld (some 5) (.t 1)),
 gT 9 11 (.call (.f 16) [(.t 10)] [] []),
 gT 9 12 (.bin false .eql (.t 11) (cI 4)),
 mo (.pick (.t 9) (.t 12) (.c (.bool false))) 13]
@[irreducible] def mg_3v:List MOp:=[gT 14 15 (.ld (some 5) (.t 1)),
 gT 14 16 (.call (.f 18) [(.t 15)] [] []),
 gT 14 17 (.bin false .eql (.t 16) (cI 2)),
 mo (.pick (.t 14) (.t 17) (.c (.bool false))) 18]
@[irreducible] def mg_3w:List MOp:=[gT 19 20 (.call (.f 47) [] [] []),
 gT 19 21 (.call (.f 26) [(.c (.str [97,98]))] [] []),
 gT 19 22 (.call (.f 20) [(.t 20),(.t 21)] [] []),
 mo (.pick (.t 19) (.t 22) (.c (.bool false))) 23]
def mc_1p:MC :=
 (sR [mo (.mv (.c (.bool false))) 0]
 (sR [mo (.call (.f 27) [(.c (.str [40,97,98,124,99,41,123,50,125]))] [] []) 4,
 oV 4 3,
 mo (.ext 0 (.t 3)) 5,
 mo (.ext 1 (.t 3)) 6,
 mo (.alloc [(.int .i64 0),(.sl []),(.sl []),(.int .i64 0),(.int .i64 0)]) 1,
 ⟨.st 5 (.t 1) (.t 5),none,none⟩,
 oV 6 2]
 (.seq (.regI [.op (oV 2 7),
 .op (mo (.bin false .eql (.t 7) (cI 0)) 8),
 .op (oV 8 9),
 .grp mg_3u,
 .op (oV 13 14),
 .grp mg_3v,
 .op (oV 18 19),
 .grp mg_3w,
 .op (oV 23 0)])
 .ret)))
theorem Wq_1p:Cn Tryz.prog 22 [] [] F_1p (fun z=>.bool z) (fun z=>[]):=fun Q Q' h hQ=>by
 refine acallM mc_1p [] [] [.t 0] Tryz.func22 fun M=>?_
 unfold F_1p at h
 unfold mc_1p
 replace h:=tY h
 refine tB ?_
 repeat' (first
 | (exact tZ)
 | ((first|refine oblg h ?_|refine roomG h ?_|refine fork h ?_ ?_|refine forkS h ?_ ?_)<;>clear h<;>intro hc h)
 | (obtain ⟨y,hy,h⟩:=h;(first|with_reducible first|have hw:=Wq_1a.w hy|have hw:=Wq_1r.w hy|have hw:=Wq_1s.w hy|have hw:=Wq_23.w hy|have hw:=Wq_1u.w hy|have hw:=W_s hy);replace hw:=tY hw;(first|refine M.sC hw ?_|refine M.sD hw ?_);clear hw hy;refine tB ?_)
 | (refine M.gj1 (ms:=mg_3w) [0] [] (fun y=>[(23,.bool y)]) (fun y=>[]) h ?_ ?_<;>first
 | (clear h;intro Qn K hK1 h;unfold mg_3w;replace h:=tY h;refine tB ?_)
  |(clear h;intro y h;replace h:=tY h;refine tB ?_))
 | (refine M.gj1 (ms:=mg_3v) [0] [] (fun y=>[(18,.bool y)]) (fun y=>[]) h ?_ ?_<;>first
 | (clear h;intro Qn K hK2 h;unfold mg_3v;replace h:=tY h;refine tB ?_)
  |(clear h;intro y h;replace h:=tY h;refine tB ?_))
 | (refine M.gj1 (ms:=mg_3u) [0,1] [1] (fun y=>[(13,.bool y)]) (fun y=>[]) h ?_ ?_<;>first
 | (clear h;intro Qn K hK3 h;unfold mg_3u;replace h:=tY h;refine tB ?_)
  |(clear h;intro y h;replace h:=tY h;refine tB ?_))
 | ((first|refine hK1 _ ?_|refine hK2 _ ?_|refine hK3 _ ?_);(try refine tB ?_);refine ⟨_,h,?_⟩;exact tU0;done)
 | (refine tE ?_;(first|rw [M.lok_compU]|rw [M.lokD_compU]);refine tB ?_)
 | (refine tA ?_)
 | fail)
end Go.Ab
