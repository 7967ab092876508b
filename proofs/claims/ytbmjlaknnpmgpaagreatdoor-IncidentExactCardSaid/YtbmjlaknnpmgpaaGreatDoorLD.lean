/- What the functions of this seat that lie on the laws' road compute (part LD), each for every input. By AI agents. -/
import Derived.Test.YtbmjlaknnpmgpaaGreatDoorLT
set_option linter.all false
set_option maxRecDepth 20000
set_option maxHeartbeats 2000000
namespace Go.Ab
open Go.Proofs
noncomputable section
def e1i (is_:Bool) (jJ:Str) (no_:Str):Option Str :=
 bif is_ then some jJ else some no_
instance h05 {is_:Bool} {jJ no_:Str}:WJ (e1i is_ jJ no_) 42 [.bool is_,.str jJ,.str no_] .str:=wX Tryz.func42 (h:=fun _ _ h hQ M=>by unfold e1i at h;exact tX)
def f7p (k36:Int) (a37:a4e) (x35:List Str):Option (List Str) :=
 (a8n a37.n_).bind fun y41=>chk (room (x35.length+[a37.kK,y41].length) 16) (some (x35++[a37.kK,y41]))
def F_d (m_:l6):Option Str := (d8u m_.Fingerprint 10).bind fun y4=>(a8n m_.Spots).bind fun y5=>(e1i m_.Public [112,117,98,108,105,99] [105,110,115,105,100,101]).bind fun y6=>(a0d f7p [(a4e.mk [114,101,97,100,101,114,115] m_.Readers),(a4e.mk [115,105,110,99,101] m_.Since),(a4e.mk [108,101,118,101,108] m_.Severity.Level),(a4e.mk [119,111,114,116,104] m_.Severity.Worth),(a4e.mk [97,117,100,105,101,110,99,101] m_.Severity.Audience),(a4e.mk [115,99,111,114,101] m_.Severity.Score)] 0 [[108,101,97,107],y4,[115,112,111,116,115],y5,y6]).bind fun x42=>(e1i m_.Rotated [114,111,116,97,116,101,100] [118,97,108,105,100]).bind fun y46=>(e1i m_.Dead [100,101,97,100] [97,108,105,118,101]).bind fun y47=>chk (room (x42.length+[y46,y47].length) 16) ((d1n (x42++[y46,y47]) [32]).bind fun y48=>some y48)
def a_d:List (Nat×RN):=[(2,⟨[.gc [1,3]],[],[]⟩),(7,⟨[],[.c 9 0 [61] []],[]⟩)]
@[irreducible] def d1j:MC:=rdc (cK Tryz.prog Tryz.f16 a_d [] 3)
def g4r:MC:=rdc (cT Tryz.prog Tryz.f16 a_d [(3,d1j)])
instance h54 {m_:l6}:WI (F_d m_) Tryz.prog 16 [l6.v m_] [] (fun z=>.str z) (fun z=>[]):=⟨fun Q Q' h hQ=>by
 refine a3a g4r [] [] [.t 2] Tryz.func16 fun M=>?_
 unfold F_d at h
 unfold g4r
 replace h:=tY h
 refine tB ?_
 repeat' (first
 | (exact tZ)
 | ((first|refine b8n h ?_|refine a6x h ?_|refine b8p h ?_|refine b8o h ?_|refine b8q h ?_|refine appG h ?_|refine b8r h ?_|refine fork h ?_ ?_|refine a6y h ?_ ?_)<;>clear h<;>intro hc h)
 | (obtain ⟨y,hy,h⟩:=h;(first|have hw:=a0w 1000 61 (h4f hy)|have hw:=g6s hy|have hw:=g6o hy|have hw:=WI.w hy);replace hw:=tY hw;(first|refine M.sC hw ?_|refine M.sD hw ?_);clear hw hy;refine tB ?_)
 | (refine M.fold1 (b:=d1j) 40 [1,38,39] [38,1] (fun x=>[(3,.osl 2003 1 0 x.length)]) (fun x=>[.o 2003 (.arr 1 (x.map V.str))]) [.gc [1,3,38,39,40],.acc 3 2003 1] h ?_ ?_ ?_<;>first
 | (clear h;intro k a x Qn K hK1 hkN1 ha1 h hf;skip;clear hf;have hkd:=kD hkN1;have hkB1:=kB hkN1;have hkI1:=kI (k:=k) (by (try simp only [wC,wO] at hkN1);omega);have hkd1:decide ((k:Int)<6)=true:=wV (by simp only [wC,wO] at hkN1;omega);have hkr1:(0≤(k:Int)∧(k:Int)<6)=True:=eq_true (by simp only [wC,wO] at hkN1;omega);have hle1:=trivial;have hpt1:=trivial;unfold f7p at h;unfold d1j;replace h:=tY h;refine tKA ha1 hkd hkN1 hkB1 hkI1 hkd1 hkr1 hle1 hpt1 ?_)
  |(clear h;intro x K h;replace h:=And.left (And.intro h trivial);unfold d1j;replace h:=tY h;refine tB ?_)
  |(clear h;(try refine tB ?_);exact tU0;done))
 | (simp only [ha1])
 | (refine hK1 _ ?_;(try refine tB ?_);refine ⟨_,h,?_⟩;exact tU0;done)
 | (refine tE6 a4e.v ([(a4e.mk [114,101,97,100,101,114,115] m_.Readers),(a4e.mk [115,105,110,99,101] m_.Since),(a4e.mk [108,101,118,101,108] m_.Severity.Level),(a4e.mk [119,111,114,116,104] m_.Severity.Worth),(a4e.mk [97,117,100,105,101,110,99,101] m_.Severity.Audience),(a4e.mk [115,99,111,114,101] m_.Severity.Score)]:List a4e) ?_;(first|rw [M.lok_compU]|rw [M.lokD_compU]|(simp only [slV,V.cells];first|rw [M.lok_comp]|rw [M.lokD_comp]));refine tB ?_)
 | (refine tE4 a4e.v ?_;(first|rw [M.lok_compU]|rw [M.lokD_compU]|(simp only [V.cells];first|rw [M.lok_comp]|rw [M.lokD_comp]));refine tB ?_)
 | (refine tE ?_;(first|rw [M.lok_compU]|rw [M.lokD_compU]);refine tB ?_)
 | (refine tA ?_)
 | fail)⟩
def e1v (y2:List Str) (k101:Int) (a78:Int×Nat) (x77:Bool×l6):Option (Bool×l6) :=
 bif Nat.beq a78.2 1 then chk (inb a78.1 y2.length) ((a4t (y2.getD (a78.1).toNat default)).bind fun y121=>grp ((x77.1||(!y121.2))) fun b122=>some (b122,(l6.mk x77.2.Fingerprint y121.1 x77.2.Public x77.2.Readers x77.2.Since x77.2.Severity x77.2.Rotated x77.2.Dead))) else bif Nat.beq a78.2 3 then chk (inb a78.1 y2.length) ((a4t (y2.getD (a78.1).toNat default)).bind fun y118=>grp ((x77.1||(!y118.2))) fun b119=>some (b119,(l6.mk x77.2.Fingerprint x77.2.Spots x77.2.Public y118.1 x77.2.Since x77.2.Severity x77.2.Rotated x77.2.Dead))) else bif Nat.beq a78.2 4 then chk (inb a78.1 y2.length) ((a4t (y2.getD (a78.1).toNat default)).bind fun y115=>grp ((x77.1||(!y115.2))) fun b116=>some (b116,(l6.mk x77.2.Fingerprint x77.2.Spots x77.2.Public x77.2.Readers y115.1 x77.2.Severity x77.2.Rotated x77.2.Dead))) else bif Nat.beq a78.2 5 then chk (inb a78.1 y2.length) ((a4t (y2.getD (a78.1).toNat default)).bind fun y112=>grp ((x77.1||(!y112.2))) fun b113=>some (b113,(l6.mk x77.2.Fingerprint x77.2.Spots x77.2.Public x77.2.Readers x77.2.Since (p8.mk y112.1 x77.2.Severity.Worth x77.2.Severity.Audience x77.2.Severity.Score) x77.2.Rotated x77.2.Dead))) else bif Nat.beq a78.2 6 then chk (inb a78.1 y2.length) ((a4t (y2.getD (a78.1).toNat default)).bind fun y109=>grp ((x77.1||(!y109.2))) fun b110=>some (b110,(l6.mk x77.2.Fingerprint x77.2.Spots x77.2.Public x77.2.Readers x77.2.Since (p8.mk x77.2.Severity.Level y109.1 x77.2.Severity.Audience x77.2.Severity.Score) x77.2.Rotated x77.2.Dead))) else bif Nat.beq a78.2 7 then chk (inb a78.1 y2.length) ((a4t (y2.getD (a78.1).toNat default)).bind fun y106=>grp ((x77.1||(!y106.2))) fun b107=>some (b107,(l6.mk x77.2.Fingerprint x77.2.Spots x77.2.Public x77.2.Readers x77.2.Since (p8.mk x77.2.Severity.Level x77.2.Severity.Worth y106.1 x77.2.Severity.Score) x77.2.Rotated x77.2.Dead))) else bif Nat.beq a78.2 8 then chk (inb a78.1 y2.length) ((a4t (y2.getD (a78.1).toNat default)).bind fun y103=>grp ((x77.1||(!y103.2))) fun b104=>some (b104,(l6.mk x77.2.Fingerprint x77.2.Spots x77.2.Public x77.2.Readers x77.2.Since (p8.mk x77.2.Severity.Level x77.2.Severity.Worth x77.2.Severity.Audience y103.1) x77.2.Rotated x77.2.Dead))) else none
def F_i (gJ:Str):Option (l6×Int) := (d5f gJ [32]).bind fun y2=>bif (!decide ((y2.length:Int)=19)) then some ((l6.mk 0 0 false 0 0 (p8.mk 0 0 0 0) false false),4) else chk (inb 1 y2.length) ((puE (y2.getD 1 default) 10 64).bind fun y4=>b6v (fun l100=>(a0d (e1v y2) l100 0 ((!y4.2),(l6.mk 0 0 false 0 0 (p8.mk 0 0 0 0) false false))).bind fun x123=>chk (inb 4 y2.length) (chk (inb 17 y2.length) (chk (inb 18 y2.length) (bif x123.1 then some ((l6.mk 0 0 false 0 0 (p8.mk 0 0 0 0) false false),4) else (F_d (l6.mk y4.1 x123.2.Spots (decide ((y2.getD 4 default)=[112,117,98,108,105,99])) x123.2.Readers x123.2.Since x123.2.Severity (decide ((y2.getD 17 default)=[114,111,116,97,116,101,100])) (decide ((y2.getD 18 default)=[100,101,97,100])))).bind fun y127=>bif (!decide (y127=gJ)) then some ((l6.mk 0 0 false 0 0 (p8.mk 0 0 0 0) false false),4) else some ((l6.mk y4.1 x123.2.Spots (decide ((y2.getD 4 default)=[112,117,98,108,105,99])) x123.2.Readers x123.2.Since x123.2.Severity (decide ((y2.getD 17 default)=[114,111,116,97,116,101,100])) (decide ((y2.getD 18 default)=[100,101,97,100]))),0))))) [(3,1),(6,3),(8,4),(10,5),(12,6),(14,7),(16,8)])
@[irreducible] def d72:List MOp:=rdc (cG Tryz.prog Tryz.f20 [] 11 2 4)
def a_i:List (Nat×RN):=[(3,⟨[.gc [2]],[],[]⟩),(6,⟨[.gc [0,2,4,5,6,7,11,57,58,79,80,81,82]],[],[]⟩),(7,⟨[],[],[.n 2 (.adq 5 11),.n 2 (.toA 27 11),.n 4 (.toA 28 11),.n 6 (.toA 29 11),.n 9 (.toA 31 11),.n 12 (.toA 33 11),.n 15 (.toA 35 11),.n 18 (.toA 37 11),.n 20 (.shut 26)]⟩),(10,⟨[],[],[.n 0 (.ofA 10 11)]⟩),(11,⟨[.gc [0,2,4,5,6,7,8,11,39,57,58,79,80,81,82]],[],[.u 2 4 d72]⟩),(13,⟨[.gc [0,2,5,8,11,79,80,81,82]],[],[]⟩),(14,⟨[.gc [2,11]],[],[]⟩),(15,⟨[.gc [2,5,11]],[],[]⟩)]
@[irreducible] def d83:MC:=rdc (cK Tryz.prog Tryz.f20 a_i [] 8)
def g4p:MC:=rdc (cT Tryz.prog Tryz.f20 a_i [(8,d83)])
instance h4x {gJ:Str}:WI (F_i gJ) Tryz.prog 20 [.str gJ] [] (fun z=>.tup [l6.v z.1,.int .i64 z.2]) (fun z=>[]):=⟨fun Q Q' h hQ=>by
 refine a3a g4p [] [] [.c 2 (some 11),.t 3] Tryz.func20 fun M=>?_
 unfold F_i at h
 unfold g4p
 replace h:=tY h
 refine tB ?_
 repeat' (first
 | (exact tZ)
 | ((first|refine b8n h ?_|refine a6x h ?_|refine b8p h ?_|refine b8o h ?_|refine b8q h ?_|refine appG h ?_|refine b8r h ?_|refine fork h ?_ ?_|refine a6y h ?_ ?_)<;>clear h<;>intro hc h)
 | (intro b;(try refine tB ?_))
 | (obtain ⟨y,hy,h⟩:=h;(first|with_reducible first|have hw:=g6r hy|have hw:=g6p hy|have hw:=g6n hy|have hw:=WI.w hy);replace hw:=tY hw;(first|refine M.sC hw ?_|refine M.sD hw ?_);clear hw hy;refine tB ?_)
 | (refine M.gv1 (ms:=d72) 59 [57,58] h ?_ ?_<;>first
 | (clear h;intro K hK1;unfold d72;refine tB ?_)
 | (clear h;intro b h;replace h:=tY h;refine tB ?_))
 | (refine M.mfold1 (b:=d83) (kv:=(kvV (V.int .i64) (V.adr b))) 39 [0,2,4,5,6,11,39] [2] (fun x=>[(8,.bool x.1)]) (fun x=>[.o 5 (.cells [.int .u64 x.2.Fingerprint,.int .i64 x.2.Spots,.bool x.2.Public,.int .i64 x.2.Readers,.int .i64 x.2.Since,.int .i64 x.2.Severity.Level,.int .i64 x.2.Severity.Worth,.int .i64 x.2.Severity.Audience,.int .i64 x.2.Severity.Score,.bool x.2.Rotated,.bool x.2.Dead])]) [] h ?_ ?_<;>first
 | (clear h;intro rem cur x k Qn K hK2 hs2 hn2;unfold e1v at hn2;unfold d83;refine tB ?_)
 | (clear h;(try refine tB ?_);exact tU0;done))
 | (refine c6h hs2 hn2 ?_ ?_<;>first
  |(intro h;rw [M.lok_eq];replace h:=tY h;refine tB ?_)
  |(intro i a h;rw [M.lok_eq];obtain ⟨ak,ao⟩:=a;rcases ao with _|_|_|_|_|_|_|_|_|_|_|_|ao<;>replace h:=tY h<;>first|exact False.elim h|(exfalso;simp [Nat.beq,b3n] at h;done)|refine tB ?_))
 | (refine hK1 _ ?_;exact tU;done)
 | (apply hK2;(try refine tB ?_);refine ⟨_,h,?_⟩;exact tU0;done)
 | (refine d30 (fun hc=>?_) (fun hc=>?_))
 | (refine tE ?_;(first|rw [M.lok_compU]|rw [M.lokD_compU]);refine tB ?_)
 | (refine tA ?_)
 | fail)⟩
def f1q (m_:l6):Option Bool :=
 grp ((m_.Rotated&&m_.Dead)) fun b2=>some b2
instance g9k {m_:l6}:WJ (f1q m_) 18 [l6.v m_] .bool:=wX Tryz.func18 [(1,⟨[],[],[.v 3 5]⟩)] (h:=fun _ _ h hQ M=>by unfold f1q at h;exact tX)
def e1h:Option Bool :=
 (F_i [108,101,97,107,32,55,32,115,112,111,116,115,32,49,32,105,110,115,105,100,101,32,114,101,97,100,101,114,115,32,50,32,115,105,110,99,101,32,53,32,108,101,118,101,108,32,50,32,119,111,114,116,104,32,49,48,48,32,97,117,100,105,101,110,99,101,32,51,32,115,99,111,114,101,32,51,48,48,32,114,111,116,97,116,101,100,32,100,101,97,100]).bind fun y2=>jn (α:=Bool) (bif decide (y2.2=0) then (F_d y2.1).bind fun y10=>some (decide (y10=[108,101,97,107,32,55,32,115,112,111,116,115,32,49,32,105,110,115,105,100,101,32,114,101,97,100,101,114,115,32,50,32,115,105,110,99,101,32,53,32,108,101,118,101,108,32,50,32,119,111,114,116,104,32,49,48,48,32,97,117,100,105,101,110,99,101,32,51,32,115,99,111,114,101,32,51,48,48,32,114,111,116,97,116,101,100,32,100,101,97,100])) else some false) fun j11=>grp ((j11&&decide (y2.1.Fingerprint=7))) fun b12=>grp ((b12&&decide (y2.1.Since=5))) fun b13=>jn (α:=Bool) (bif b13 then (f1q y2.1).bind fun y15=>some y15 else some false) fun j16=>some j16
instance g03 {m:List MOp}:GI (gjt 70319 m) [0] [] (fun y:Bool=>[(30,.bool y)]) (fun y=>[]):=⟨⟩
instance g04 {m:List MOp}:GI (gjt 70303 m) [0,2] [2] (fun y:Bool=>[(16,.bool y)]) (fun y=>[]):=⟨⟩
instance h04:WJ e1h 7 [] .bool:=wX Tryz.func7 [(3,⟨[],[],[.w 3 7 70303,.v 9 12,.v 14 17,.w 19 21 70319]⟩)] (h:=fun _ _ h hQ M=>by unfold e1h at h;exact tX)
set_option maxRecDepth 20000
set_option maxHeartbeats 2000000
def F_0 (t_:x8) (n_:Int):Option (Int×x8) := bif decide ((t_.L.length:Int)≤t_.at_) then some (0,t_) else chk (inb t_.at_ t_.L.length) (chk (a0p (t_.at_+1)) (chk (d4d ((t_.L.getD (t_.at_).toNat default) % 2^16) n_) (some ((((t_.L.getD (t_.at_).toNat default) % 2^16) % n_),(x8.mk t_.L (t_.at_+1))))))
instance h44 {t_:x8} {n_:Int}:WI (F_0 t_ n_) Tryz.prog 12 [.ptr 1000 0,.int .i64 n_] [(1000,.cells [.sl (t_.L.map (V.int .i64)),.int .i64 t_.at_])] (fun z=>.int .i64 z.1) (fun z=>[(1000,.cells [.sl (z.2.L.map (V.int .i64)),.int .i64 z.2.at_])]):=wX Tryz.func12 [(3,⟨[.gc [0,1]],[],[]⟩),(4,⟨[.gc [0,1,5]],[],[]⟩),(5,⟨[.gc [1,5]],[],[]⟩)] [] [] [1000] (h:=fun _ _ h hQ M=>by unfold F_0 at h;exact tX)
def F_1 (t_:x8) (a_:Int) (b_:Int):Option (Int×x8) := chk (a0p (b_ - a_)) (chk (a0p ((b_ - a_)+1)) ((F_0 t_ ((b_ - a_)+1)).bind fun y2=>chk (a0p (a_+y2.1)) (some ((a_+y2.1),y2.2))))
instance h5g {t_:x8} {a_ b_:Int}:WI (F_1 t_ a_ b_) Tryz.prog 35 [.ptr 1000 0,.int .i64 a_,.int .i64 b_] [(1000,.cells [.sl (t_.L.map (V.int .i64)),.int .i64 t_.at_])] (fun z=>.int .i64 z.1) (fun z=>[(1000,.cells [.sl (z.2.L.map (V.int .i64)),.int .i64 z.2.at_])]):=wX Tryz.func35 [(1,⟨[],[.c 6 0 [1000] []],[]⟩)] [] [] [1000] (h:=fun _ _ h hQ M=>by unfold F_1 at h;exact tX)
def F_t (t_:x8) (l_:List Int):Option (Int×x8) := (F_0 t_ (l_.length:Int)).bind fun y2=>chk (inb y2.1 l_.length) (some ((l_.getD (y2.1).toNat default),y2.2))
instance h4o {t_:x8} {l_:List Int}:WI (F_t t_ l_) Tryz.prog 36 [.ptr 1000 0,.sl (l_.map (V.int .i64))] [(1000,.cells [.sl (t_.L.map (V.int .i64)),.int .i64 t_.at_])] (fun z=>.int .i64 z.1) (fun z=>[(1000,.cells [.sl (z.2.L.map (V.int .i64)),.int .i64 z.2.at_])]):=wX Tryz.func36 [(1,⟨[],[.c 4 0 [1000] []],[]⟩)] [] [] [1000] (h:=fun _ _ h hQ M=>by unfold F_t at h;exact tX)
@[go_sem] def g2n (n_:Int) (x29:Int×Int×(List Int)×x8):Option (Fl (Int×Int×(List Int)×x8) ((List Int)×x8)) :=
 bif decide (x29.2.1<n_) then (F_0 x29.2.2.2 3).bind fun y37=>chk (a0p (x29.1+y37.1)) (chk (room (x29.2.2.1.length+[(x29.1+y37.1)].length) 8) (chk (a0p (x29.2.1+1)) (some (.nx ((x29.1+y37.1),(x29.2.1+1),(x29.2.2.1++[(x29.1+y37.1)]),y37.2))))) else some (.ex (x29.2.2.1,x29.2.2.2))
def e1u (t_:x8) (n_:Int):Option ((List Int)×x8) :=
 (F_0 t_ 4).bind fun y2=>(loop (g2n n_) (y2.1,0,[],y2.2)).bind fun r38=>some (r38.1,r38.2)
def g66:List (Nat×RN):=[(1,⟨[],[.k 0 1],[]⟩),(2,⟨[],[.c 1 0 [1000] []],[]⟩),(5,⟨[.gc [0,1,5,6,7]],[],[]⟩),(6,⟨[],[.c 2 0 [1000] []],[]⟩)]
@[irreducible] def e5p:MC:=rdc (cK Tryz.prog Tryz.f57 g66 [] 4)
instance:LI e5p 0 0 [0,1] [] (fun y:Int×Int×(List Int)×x8=>[(5,.osl 2005 1 0 y.2.2.1.length),(6,.int .i64 y.1),(7,.int .i64 y.2.1)]) (fun y=>[.o 2005 (.arr 1 (y.2.2.1.map (V.int .i64))),.o 1000 (.cells [.sl (y.2.2.2.L.map (V.int .i64)),.int .i64 y.2.2.2.at_])]) [.gc [0,1,5,6,7],.acc 5 2005 1]:=⟨⟩
instance h33 {t_:x8} {n_:Int}:WI (e1u t_ n_) Tryz.prog 57 [.ptr 1000 0,.int .i64 n_] [(1000,.cells [.sl (t_.L.map (V.int .i64)),.int .i64 t_.at_])] (fun z=>.sl (z.1.map (V.int .i64))) (fun z=>[(1000,.cells [.sl (z.2.L.map (V.int .i64)),.int .i64 z.2.at_])]):=wX Tryz.func57 g66 [(4,e5p)] [.fz 4] [1000] (h:=fun _ _ h hQ M=>by unfold e1u at h;exact tX)
@[go_sem] def g4h (x21:Int×(List Int)×x8):Option (Fl (Int×(List Int)×x8) ((List Int)×x8)) :=
 bif decide (0<x21.1) then (F_t x21.2.2 [2,2,1,3]).bind fun y25=>chk (room (x21.2.1.length+[y25.1].length) 8) (chk (a0p (x21.1 - 1)) (some (.nx ((x21.1 - 1),(x21.2.1++[y25.1]),y25.2)))) else some (.ex (x21.2.1,x21.2.2))
@[go_sem] def g4c (k42:Int) (a43:Int) (x41:List Int):Option (List Int) :=
 bif decide (a43=2) then chk (room (x41.length+[k42].length) 8) (some (x41++[k42])) else some x41
@[go_sem] def g2m (r26:(List Int)×x8) (x44:List Int) (k166:Int) (a167:Int) (x165:(List a0f)×x8):Option ((List a0f)×x8) :=
 (F_0 x165.2 (r26.1.length:Int)).bind fun y191=>(F_0 y191.2 (x44.length:Int)).bind fun y192=>chk (inb y192.1 x44.length) (jn (α:=a0f×x8) ((F_0 y192.2 4).bind fun y197=>bif decide (y197.1=3) then some ((a0f.mk a167 2 y191.1 (x44.getD ((y192.1).toNat) default)),y197.2) else some ((a0f.mk a167 1 y191.1 (x44.getD ((y192.1).toNat) default)),y197.2)) fun j195=>bif (!decide (j195.1.Principal=j195.1.Group)) then chk (room (x165.1.length+[j195.1].length) 32) (some ((x165.1++[j195.1]),j195.2)) else some (x165.1,j195.2))
def f4i (t_:x8):Option (d9×x8) :=
 (F_1 t_ 2 6).bind fun y14=>(loop g4h (y14.1,[1],y14.2)).bind fun r26=>(a0d g4c r26.1 0 []).bind fun x44=>bif decide ((x44.length:Int)=0) then some ((d9.mk r26.1 []),r26.2) else (F_0 r26.2 12).bind fun y116=>(e1u y116.2 y116.1).bind fun y117=>(a0d (g2m r26 x44) y117.1 0 ([],y117.2)).bind fun x198=>some ((d9.mk r26.1 x198.1),x198.2)
def f0r:List (Nat×RN):=[(1,⟨[],[.k 1 1],[]⟩),(2,⟨[],[.c 1 0 [1000] []],[]⟩),(4,⟨[.gc [0,2,3,4]],[],[]⟩),(5,⟨[],[.k 3 2,.c 4 0 [1000] []],[]⟩),(6,⟨[],[.k 0 1],[]⟩),(15,⟨[],[.c 2 0 [1000] [],.c 3 0 [1000] []],[]⟩),(18,⟨[],[.c 5 0 [1000] [],.c 10 0 [1000] []],[]⟩),(19,⟨[.gc [0,2,3,5,10,49,50,51]],[.c 1 0 [1000] []],[]⟩)]
@[irreducible] def c6q:MC:=rdc (cK Tryz.prog Tryz.f27 f0r [] 3)
@[irreducible] def d1b:MC:=rdc (cK Tryz.prog Tryz.f27 f0r [(3,c6q)] 8)
@[irreducible] def d7d:MC:=rdc (cK Tryz.prog Tryz.f27 f0r [(3,c6q),(8,d1b)] 10000021)
@[irreducible] def e5o:MC:=rdc (cK Tryz.prog Tryz.f27 f0r [(3,c6q),(8,d1b),(10000021,d7d)] 16)
instance:LI c6q 0 0 [0,2,3] [3,2] (fun y:Int×(List Int)×x8=>[(4,.int .i64 y.1)]) (fun y=>[.p 3 0 [.osl 4048 1 0 y.2.1.length],.o 4048 (.arr 1 (y.2.1.map (V.int .i64))),.o 1000 (.cells [.sl (y.2.2.L.map (V.int .i64)),.int .i64 y.2.2.at_])]) [.gc [0,2,3,4],.ownC 3 0 4048 1 none]:=⟨⟩
instance:LI d1b 30 29 [0,2,3,28,29] [4048,3,2,1000] (fun y:List Int=>[(5,.osl 2005 1 0 y.length)]) (fun y=>[.o 2005 (.arr 1 (y.map (V.int .i64)))]) [.gc [0,2,3,5,28,29,30],.acc 5 2005 1]:=⟨⟩
instance:LI d7d 0 0 [0,2,3,5,10,49,50,51] [2005,3,4048,4049,2] (fun y:a0f×x8=>[]) (fun y=>[.o 10 (.cells [.int .i64 y.1.Time,.int .i64 y.1.Kind,.int .i64 y.1.Principal,.int .i64 y.1.Group]),.o 1000 (.cells [.sl (y.2.L.map (V.int .i64)),.int .i64 y.2.at_])]) []:=⟨⟩
instance:LI e5o 51 50 [0,2,3,5,49,50] [2005,3,4048,2] (fun y:(List a0f)×x8=>[]) (fun y=>[.p 3 1 [.osl 4049 4 0 y.1.length],.o 4049 (.arr 4 (y.1.map a0f.v)),.o 1000 (.cells [.sl (y.2.L.map (V.int .i64)),.int .i64 y.2.at_])]) [.gc [0,2,3,5,49,50,51],.ownC 3 1 4049 4 none]:=⟨⟩
instance h40 {t_:x8}:WI (f4i t_) Tryz.prog 27 [.ptr 1000 0] [(1000,.cells [.sl (t_.L.map (V.int .i64)),.int .i64 t_.at_])] (fun z=>d9.v z.1) (fun z=>[(1000,.cells [.sl (z.2.L.map (V.int .i64)),.int .i64 z.2.at_])]):=wX Tryz.func27 f0r [(3,c6q),(8,d1b),(10000021,d7d),(16,e5o)] [.fzc 2] [1000] (h:=fun _ _ h hQ M=>by unfold f4i at h;exact tX)
@[go_sem] def g2l (d_:d9) (k208:Int) (a209:Int) (x207:Int×(List o9)×x8):Option (Int×(List o9)×x8) :=
 (F_t x207.2.2 [1,1,2,3,4,5,5,6,7,7]).bind fun y251=>(F_0 y251.2 x207.1).bind fun y252=>jn (α:=Fl (o9×x8) x8) (jn (α:=Bool) (bif decide (y251.1=1) then some true else some (decide (y251.1=2))) fun j261=>bif j261 then chk (a0p ((d_.Kinds.length:Int)+1)) ((F_0 y252.2 ((d_.Kinds.length:Int)+1)).bind fun y262=>some (.nx ((o9.mk a209 y251.1 y252.1 y262.1 0 0 0),y262.2))) else bif decide (y251.1=3) then chk (a0p (a209+1)) ((F_0 y252.2 5).bind fun y263=>chk (a0p ((a209+1)+y263.1)) (some (.nx ((o9.mk a209 y251.1 y252.1 0 ((a209+1)+y263.1) 0 0),y263.2)))) else jn (α:=Bool) (bif decide (y251.1=5) then some true else some (decide (y251.1=6))) fun j264=>bif j264 then (F_0 y252.2 3).bind fun y265=>some (.nx ((o9.mk a209 y251.1 y252.1 0 0 y265.1 0),y265.2)) else bif decide (y251.1=7) then (F_0 y252.2 x207.1).bind fun y267=>bif decide (y267.1=y252.1) then some (.ex y267.2) else some (.nx ((o9.mk a209 y251.1 y252.1 0 0 0 y267.1),y267.2)) else some (.nx ((o9.mk a209 y251.1 y252.1 0 0 0 0),y252.2))) fun o=>o.elim (fun j260=>chk (room (x207.2.1.length+[j260.1].length) 56) (some (x207.1,(x207.2.1++[j260.1]),j260.2))) (fun r268=>some (x207.1,x207.2.1,r268))
def f4h (t_:x8) (d_:d9):Option (l5×x8) :=
 (F_1 t_ 1 4).bind fun y2=>(F_0 y2.2 16).bind fun y122=>(e1u y122.2 y122.1).bind fun y123=>(a0d (g2l d_) y123.1 0 (y2.1,[],y123.2)).bind fun x269=>some ((l5.mk x269.1 x269.2.1),x269.2.2)
def f0q:List (Nat×RN):=[(1,⟨[],[.c 1 0 [1000] [],.k 2 1],[]⟩),(2,⟨[],[.c 2 0 [1000] [],.c 3 0 [1000] []],[]⟩),(5,⟨[],[.k 2 2,.c 3 0 [1000] [],.c 7 0 [1000] []],[]⟩),(9,⟨[],[.c 5 0 [1000] []],[]⟩),(11,⟨[],[.c 3 0 [1000] []],[]⟩),(14,⟨[],[.c 1 0 [1000] []],[]⟩),(16,⟨[],[.c 3 0 [1000] []],[]⟩),(17,⟨[.gc [0,3,4,5,8,15,16,17]],[],[]⟩)]
@[irreducible] def c6o:MC:=rdc (cK Tryz.prog Tryz.f28 f0q [] 10000014)
@[irreducible] def d11:MC:=rdc (cK Tryz.prog Tryz.f28 f0q [(10000014,c6o)] 10000009)
@[irreducible] def d7c:MC:=rdc (cK Tryz.prog Tryz.f28 f0q [(10000014,c6o),(10000009,d11)] 10000018)
@[irreducible] def e5n:MC:=rdc (cK Tryz.prog Tryz.f28 f0q [(10000014,c6o),(10000009,d11),(10000018,d7c)] 3)
instance:LI c6o 0 0 [0,3,4,5,8,15,16,17,31] [8,5,4081,4,3,1000] (fun y:Bool=>[(50,.bool y)]) (fun y=>[]) []:=⟨⟩
instance:LI d11 0 0 [0,3,4,5,7,8,15,16,17,31] [8,5,4081,4,3,1000] (fun y:Bool=>[(32,.bool y)]) (fun y=>[]) []:=⟨⟩
instance:LI d7c 0 0 [0,3,4,5,8,15,16,17] [5,4081,4,3] (fun y:o9×x8=>[]) (fun y=>[.o 8 (.cells [.int .i64 y.1.Time,.int .i64 y.1.Kind,.int .i64 y.1.Place,.int .i64 y.1.Principal,.int .i64 y.1.Until,.int .i64 y.1.Content,.int .i64 y.1.From]),.o 1000 (.cells [.sl (y.2.L.map (V.int .i64)),.int .i64 y.2.at_])]) []:=⟨⟩
instance:LI e5n 17 16 [0,3,4,5,15,16] [4,3] (fun y:Int×(List o9)×x8=>[]) (fun y=>[.o 5 (.cells [.int .i64 y.1,.osl 4081 7 0 y.2.1.length]),.o 4081 (.arr 7 (y.2.1.map o9.v)),.o 1000 (.cells [.sl (y.2.2.L.map (V.int .i64)),.int .i64 y.2.2.at_])]) [.gc [0,3,4,5,15,16,17],.ownC 5 1 4081 7 none]:=⟨⟩
instance h3z {t_:x8} {d_:d9}:WI (f4h t_ d_) Tryz.prog 28 [.ptr 1000 0,d9.v d_] [(1000,.cells [.sl (t_.L.map (V.int .i64)),.int .i64 t_.at_])] (fun z=>l5.v z.1) (fun z=>[(1000,.cells [.sl (z.2.L.map (V.int .i64)),.int .i64 z.2.at_])]):=wX Tryz.func28 f0q [(10000014,c6o),(10000009,d11),(10000018,d7c),(3,e5n)] [.fzc 4] [1000] (h:=fun _ _ h hQ M=>by unfold f4h at h;exact tX)
def f5v (t_:x8) (r_:o6):Option (o7×x8) :=
 (F_0 t_ 20).bind fun y2=>(F_0 y2.2 (r_.Issuers.length:Int)).bind fun y7=>(F_0 y7.2 5).bind fun y8=>(F_0 y8.2 3).bind fun y9=>chk (a0p (y2.1+1)) ((F_0 y9.2 12).bind fun y10=>chk (a0p ((y2.1+1)+y10.1)) (some ((o7.mk y7.1 (IntKind.wrap .u64 y8.1) y9.1 y2.1 ((y2.1+1)+y10.1)),y10.2)))
instance g8k {t_:x8} {r_:o6}:WI (f5v t_ r_) Tryz.prog 59 [.ptr 1000 0,o6.v r_] [(1000,.cells [.sl (t_.L.map (V.int .i64)),.int .i64 t_.at_])] (fun z=>o7.v z.1) (fun z=>[(1000,.cells [.sl (z.2.L.map (V.int .i64)),.int .i64 z.2.at_])]):=wX Tryz.func59 [(1,⟨[],[.c 1 0 [1000] []],[]⟩),(2,⟨[],[.c 4 0 [1000] [],.c 6 0 [1000] [],.c 9 0 [1000] [],.c 14 0 [1000] []],[]⟩)] [] [] [1000] (h:=fun _ _ h hQ M=>by unfold f5v at h;exact tX)
def e0a (x_:Int) (jD:Int) (kC:Int):Option Bool :=
 grp ((decide (jD≤x_)&&decide (x_≤kC))) fun b2=>some b2
instance h0q {x_ jD kC:Int}:WJ (e0a x_ jD kC) 99 [.int .i64 x_,.int .i64 jD,.int .i64 kC] .bool:=wX Tryz.func99 [(1,⟨[],[],[.v 4 7]⟩)] (h:=fun _ _ h hQ M=>by unfold e0a at h;exact tX)
@[go_sem] def f6w (s_:Str) (x13:Int):Option (Fl Int (Sum Unit Bool)) :=
 bif decide (x13<(s_.length:Int)) then chk (inb x13 s_.length) (bif decide (((s_.getD (x13).toNat 0).toNat:Int)<97) then some (.ex (.inr false)) else chk (inb x13 s_.length) (bif decide (122<((s_.getD (x13).toNat 0).toNat:Int)) then some (.ex (.inr false)) else chk (a0p (x13+1)) (some (.nx (x13+1))))) else some (.ex (.inl ()))
def f2x (s_:Str):Option Bool :=
 (e0a (s_.length:Int) 1 40).bind fun y4=>bif (!y4) then some false else (loop (f6w s_) 0).bind fun r14=>Sum.elim (fun u15=>some true) (fun u16=>some u16) r14
def g5o:List (Nat×RN):=[(5,⟨[.gc [0,3,19,20,21,22]],[],[]⟩)]
@[irreducible] def e76:MC:=rdc (cK Tryz.prog Tryz.f98 g5o [] 4)
instance:LI e76 0 0 [0] [] (fun y:Int=>[(3,.int .i64 y)]) (fun y=>[]) []:=⟨⟩
instance h2b {s_:Str}:WJ (f2x s_) 98 [.str s_] .bool:=wX Tryz.func98 g5o [(4,e76)] (h:=fun _ _ h hQ M=>by unfold f2x at h;exact tX)
def f1p (r_:o6) (c_:o7):Option Bool :=
 chk (a0p ((r_.Issuers.length:Int) - 1)) ((e0a c_.Issuer 0 ((r_.Issuers.length:Int) - 1)).bind fun y7=>jn (α:=Bool) (bif y7 then (e0a c_.Holder 0 23).bind fun y9=>some y9 else some false) fun j10=>grp ((j10&&decide (0≤c_.From))) fun b11=>grp ((b11&&decide (c_.From<c_.Until))) fun b12=>grp ((b12&&decide (c_.Until≤1099511627777))) fun b13=>some b13)
instance e8z {m:List MOp}:GI (gjt 1000108 m) [3,4] [3] (fun y:Bool=>[(16,.bool y)]) (fun y=>[]):=⟨⟩
instance g9j {r_:o6} {c_:o7}:WJ (f1p r_ c_) 100 [o6.v r_,o7.v c_] .bool:=wX Tryz.func100 [(1,⟨[],[],[.w 8 11 1000108,.v 13 16,.v 18 23,.v 25 28]⟩)] (h:=fun _ _ h hQ M=>by unfold f1p at h;exact tX)
@[go_sem] def g2k (kE:Int) (jE:Int) (t_:Int) (k100:Int) (a101:o7) (x99:List Int):Option (List Int) :=
 grp ((decide (a101.Issuer=kE)&&decide (a101.Holder=jE))) fun b123=>grp ((b123&&decide (a101.From≤t_))) fun b124=>grp ((b124&&decide (t_<a101.Until))) fun b125=>bif b125 then chk (room (x99.length+[k100].length) 8) (some (x99++[k100])) else some x99
def f2w (r_:o6) (kE:Int) (jE:Int) (t_:Int):Option (List Int) :=
 (a0d (g2k kE jE t_) r_.Credentials 0 []).bind fun x126=>some x126
def g5n:List (Nat×RN):=[(1,⟨[],[.k 0 1],[]⟩),(5,⟨[],[],[.v 5 9,.v 11 15,.v 17 21]⟩),(6,⟨[.gc [1,2,3,9,10,13,14,15,25,26,27,28,31,32,33,34,37,38,39,40]],[],[]⟩)]
@[irreducible] def e5m:MC:=rdc (cK Tryz.prog Tryz.f101 g5n [] 3)
instance:LI e5m 15 14 [1,2,3,13,14] [] (fun y:List Int=>[(9,.osl 2009 1 0 y.length)]) (fun y=>[.o 2009 (.arr 1 (y.map (V.int .i64)))]) [.gc [1,2,3,9,13,14,15],.acc 9 2009 1]:=⟨⟩
instance h2a {r_:o6} {kE jE t_:Int}:WJ (f2w r_ kE jE t_) 101 [o6.v r_,.int .i64 kE,.int .i64 jE,.int .i64 t_] fun z=>.sl (z.map (V.int .i64)):=wX Tryz.func101 g5n [(3,e5m)] [.fz 8] (h:=fun _ _ h hQ M=>by unfold f2w at h;exact tX)
@[go_sem] def g4b (k55:Int) (a56:a0e) (x54:Unit):Option (Fl Unit Bool) :=
 (f2x a56.Name).bind fun y71=>bif (!y71) then some (.ex false) else (e0a a56.Slots 1 2).bind fun y72=>bif (!y72) then some (.ex false) else some (.nx ())
@[go_sem] def g3q (r_:o6) (k105:Int) (a106:o7) (x104:Unit):Option (Fl Unit Bool) :=
 (f1p r_ a106).bind fun y114=>bif (!y114) then some (.ex false) else some (.nx ())
@[go_sem] def g2j (r_:o6) (k147:Int) (a148:o7) (x146:Unit):Option (Fl Unit Bool) :=
 (f2w r_ a148.Issuer a148.Holder a148.From).bind fun y156=>chk (inb a148.Issuer r_.Issuers.length) (bif decide ((r_.Issuers.getD (a148.Issuer).toNat default).Slots<(y156.length:Int)) then some (.ex false) else some (.nx ()))
def F_8 (r_:o6):Option Bool := grp ((decide (8<(r_.Issuers.length:Int))||decide (24<(r_.Credentials.length:Int)))) fun b4=>bif b4 then some false else (a10 g4b r_.Issuers 0 ()).bind fun o=>o.elim (fun x73=>(a10 (g3q r_) r_.Credentials 0 ()).bind fun o=>o.elim (fun x115=>(a10 (g2j r_) r_.Credentials 0 ()).bind fun o=>o.elim (fun x157=>some true) (fun r158=>some r158)) (fun r116=>some r116)) (fun r74=>some r74)
def a_8:List (Nat×RN):=[(1,⟨[],[],[.v 5 9]⟩),(3,⟨[.gc [1,31,32,33,34]],[],[]⟩)]
@[irreducible] def d1a:MC:=rdc (cK Tryz.prog Tryz.f54 a_8 [] 4)
@[irreducible] def d7p:MC:=rdc (cK Tryz.prog Tryz.f54 a_8 [(4,d1a)] 10)
@[irreducible] def e5l:MC:=rdc (cK Tryz.prog Tryz.f54 a_8 [(4,d1a),(10,d7p)] 16)
instance:LI d1a 22 21 [1,20,21] [1] (fun y:Unit=>[]) (fun y=>[]) []:=⟨⟩
instance:LI d7p 40 39 [1,38,39] [1] (fun y:Unit=>[]) (fun y=>[]) []:=⟨⟩
instance:LI e5l 52 51 [1,50,51] [1] (fun y:Unit=>[]) (fun y=>[]) []:=⟨⟩
instance h5a {r_:o6}:WJ (F_8 r_) 54 [o6.v r_] .bool:=wX Tryz.func54 a_8 [(4,d1a),(10,d7p),(16,e5l)] (h:=fun _ _ h hQ M=>by unfold F_8 at h;exact tX)
def f5u (r_:o6):Option o6 :=
 chk (room r_.Issuers.length 24) (chk (room r_.Credentials.length 40) (some (o6.mk r_.Issuers r_.Credentials)))
instance g8j {r_:o6}:WI (f5u r_) Tryz.prog 103 [o6.v r_] [] (fun z=>.agg [.osl 1500 2 0 z.Issuers.length,.osl 1501 5 0 z.Credentials.length]) (fun z=>[(1500,.arr 2 (z.Issuers.map a0e.v)),(1501,.arr 5 (z.Credentials.map o7.v))]):=wX Tryz.func103 [] [] [.ownC 2 0 1500 2 none,.ownC 2 1 1501 5 none] [1500,1501] (h:=fun _ _ h hQ M=>by unfold f5u at h;exact tX)
def f1o (r_:o6) (c_:o7):Option (o6×Int×Int) :=
 (F_8 r_).bind fun y4=>bif (!y4) then some ((o6.mk [] []),0,31) else bif decide (24≤(r_.Credentials.length:Int)) then some ((o6.mk [] []),0,3) else (f5u r_).bind fun y6=>chk (room (y6.Credentials.length+[c_].length) 40) ((F_8 (o6.mk y6.Issuers (y6.Credentials++[c_]))).bind fun y10=>bif (!y10) then some ((o6.mk [] []),0,31) else some ((o6.mk y6.Issuers (y6.Credentials++[c_])),(r_.Credentials.length:Int),0))
instance g9i {r_:o6} {c_:o7}:WJ (f1o r_ c_) 58 [o6.v r_,o7.v c_] fun z=>.tup [o6.v z.1,.int .i64 z.2.1,.int .i64 z.2.2]:=wX Tryz.func58 [(2,⟨[.gc [4]],[],[]⟩),(4,⟨[.gc [4]],[],[]⟩),(5,⟨[.gc [2,3,4]],[.c 1 0 [] [34608,34609]],[]⟩),(7,⟨[.gc [2,4,7]],[],[.n 1 (.fz 25)]⟩)] [] [.fzc 4] (h:=fun _ _ h hQ M=>by have:SwA [(1500,34608),(1501,34609)]:=⟨⟩;unfold f1o at h;exact tX)
@[go_sem] def g4a (x21:Int×(List a0e)×x8):Option (Fl (Int×(List a0e)×x8) ((List a0e)×x8)) :=
 bif decide (0<x21.1) then (F_1 x21.2.2 1 2).bind fun y25=>chk (room (x21.2.1.length+[(a0e.mk [105,115,115,117,101,114] y25.1)].length) 24) (chk (a0p (x21.1 - 1)) (some (.nx ((x21.1 - 1),(x21.2.1++[(a0e.mk [105,115,115,117,101,114] y25.1)]),y25.2)))) else some (.ex (x21.2.1,x21.2.2))
@[go_sem] def g2i (x62:Int×o6×x8):Option (Fl (Int×o6×x8) (o6×x8)) :=
 bif decide (0<x62.1) then jn (α:=o6×x8) ((f5v x62.2.2 x62.2.1).bind fun y75=>(f1o x62.2.1 y75.1).bind fun y76=>bif decide (y76.2.2=0) then some (y76.1,y75.2) else some (x62.2.1,y75.2)) fun j72=>chk (a0p (x62.1 - 1)) (some (.nx ((x62.1 - 1),j72.1,j72.2))) else some (.ex (x62.2.1,x62.2.2))
def f4c (t_:x8):Option (o6×x8) :=
 (F_1 t_ 1 2).bind fun y14=>(loop g4a (y14.1,[],y14.2)).bind fun r26=>(F_0 r26.2 8).bind fun y49=>(loop g2i (y49.1,(o6.mk r26.1 []),y49.2)).bind fun r77=>some (r77.1,r77.2)
def f5d:List (Nat×RN):=[(1,⟨[],[.k 0 1],[]⟩),(2,⟨[],[.c 1 0 [1000] []],[]⟩),(4,⟨[.gc [0,2,3,4]],[],[]⟩),(5,⟨[],[.c 3 0 [1000] []],[]⟩),(6,⟨[],[.c 1 0 [1000] []],[]⟩),(9,⟨[.fzc 3],[.c 3 0 [1000] []],[]⟩)]
@[irreducible] def d19:MC:=rdc (cK Tryz.prog Tryz.f29 f5d [] 3)
@[irreducible] def d7b:MC:=rdc (cK Tryz.prog Tryz.f29 f5d [(3,d19)] 10000008)
@[irreducible] def e5k:MC:=rdc (cK Tryz.prog Tryz.f29 f5d [(3,d19),(10000008,d7b)] 7)
instance:LI d19 0 0 [0,2,3] [3,2] (fun y:Int×(List a0e)×x8=>[(4,.int .i64 y.1)]) (fun y=>[.p 3 0 [.osl 4048 2 0 y.2.1.length],.o 4048 (.arr 2 (y.2.1.map a0e.v)),.o 1000 (.cells [.sl (y.2.2.L.map (V.int .i64)),.int .i64 y.2.2.at_])]) [.gc [0,2,3,4],.ownC 3 0 4048 2 none]:=⟨⟩
instance:LI d7b 0 0 [0,2,3,5] [2] (fun y:o6×x8=>[]) (fun y=>[.o 3 (.cells [.sl (y.1.Issuers.map a0e.v),.sl (y.1.Credentials.map o7.v)]),.o 1000 (.cells [.sl (y.2.L.map (V.int .i64)),.int .i64 y.2.at_])]) []:=⟨⟩
instance:LI e5k 0 0 [0,2,3] [2] (fun y:Int×o6×x8=>[(5,.int .i64 y.1)]) (fun y=>[.o 3 (.cells [.sl (y.2.1.Issuers.map a0e.v),.sl (y.2.1.Credentials.map o7.v)]),.o 1000 (.cells [.sl (y.2.2.L.map (V.int .i64)),.int .i64 y.2.2.at_])]) [.fzc 3]:=⟨⟩
instance h3i {t_:x8}:WI (f4c t_) Tryz.prog 29 [.ptr 1000 0] [(1000,.cells [.sl (t_.L.map (V.int .i64)),.int .i64 t_.at_])] (fun z=>o6.v z.1) (fun z=>[(1000,.cells [.sl (z.2.L.map (V.int .i64)),.int .i64 z.2.at_])]):=wX Tryz.func29 f5d [(3,d19),(10000008,d7b),(7,e5k)] [.fzc 2] [1000] (h:=fun _ _ h hQ M=>by unfold f4c at h;exact tX)
@[go_sem] def g49 (x45:Int×Int×Int×(List a03)×x8):Option (Fl (Int×Int×Int×(List a03)×x8) (Int×Int×(List a03)×x8)) :=
 bif decide (0<x45.1) then (F_0 x45.2.2.2.2 x45.2.1).bind fun y55=>(F_0 y55.2 x45.2.2.1).bind fun y56=>(F_1 y56.2 1 3).bind fun y57=>chk (room (x45.2.2.2.1.length+[(a03.mk y55.1 y56.1 y57.1)].length) 24) (chk (a0p (x45.1 - 1)) (some (.nx ((x45.1 - 1),x45.2.1,x45.2.2.1,(x45.2.2.2.1++[(a03.mk y55.1 y56.1 y57.1)]),y57.2)))) else some (.ex (x45.2.1,x45.2.2.1,x45.2.2.2.1,x45.2.2.2.2))
@[go_sem] def g3p (x89:Int×Int×Int×(List a08)×x8):Option (Fl (Int×Int×Int×(List a08)×x8) (Int×Int×(List a08)×x8)) :=
 bif decide (0<x89.1) then (F_0 x89.2.2.2.2 x89.2.2.1).bind fun y96=>(F_0 y96.2 x89.2.1).bind fun y97=>chk (room (x89.2.2.2.1.length+[(a08.mk y96.1 y97.1)].length) 16) (chk (a0p (x89.1 - 1)) (some (.nx ((x89.1 - 1),x89.2.1,x89.2.2.1,(x89.2.2.2.1++[(a08.mk y96.1 y97.1)]),y97.2)))) else some (.ex (x89.2.1,x89.2.2.1,x89.2.2.2.1,x89.2.2.2.2))
@[go_sem] def g2h (x129:Int×Int×Int×(List a0n)×x8):Option (Fl (Int×Int×Int×(List a0n)×x8) (Int×Int×(List a0n)×x8)) :=
 bif decide (0<x129.1) then (F_0 x129.2.2.2.2 x129.2.1).bind fun y136=>(F_0 y136.2 x129.2.1).bind fun y137=>chk (room (x129.2.2.2.1.length+[(a0n.mk y136.1 y137.1)].length) 16) (chk (a0p (x129.1 - 1)) (some (.nx ((x129.1 - 1),x129.2.1,x129.2.2.1,(x129.2.2.2.1++[(a0n.mk y136.1 y137.1)]),y137.2)))) else some (.ex (x129.2.1,x129.2.2.1,x129.2.2.2.1,x129.2.2.2.2))
def e2c (t_:x8):Option (l7×x8) :=
 (F_1 t_ 1 6).bind fun y3=>(F_1 y3.2 1 5).bind fun y4=>(F_0 y4.2 8).bind fun y30=>(loop g49 (y30.1,y3.1,y4.1,[],y30.2)).bind fun r58=>(F_0 r58.2.2.2 5).bind fun y78=>(loop g3p (y78.1,r58.1,r58.2.1,[],y78.2)).bind fun r98=>(F_0 r98.2.2.2 4).bind fun y118=>(loop g2h (y118.1,r98.1,r98.2.1,[],y118.2)).bind fun r138=>some ((l7.mk r138.1 r138.2.1 r58.2.2.1 r98.2.2.1 r138.2.2.1),r138.2.2.2)
def f5e:List (Nat×RN):=[(1,⟨[],[.c 1 0 [1000] [],.c 3 0 [1000] [],.k 4 1],[]⟩),(2,⟨[],[.c 1 0 [1000] []],[]⟩),(4,⟨[.gc [0,2,3,4]],[],[]⟩),(5,⟨[],[.c 5 0 [1000] [],.c 9 0 [1000] [],.c 11 0 [1000] []],[]⟩),(6,⟨[],[.c 1 0 [1000] []],[]⟩),(8,⟨[.gc [0,2,3,5]],[],[]⟩),(9,⟨[],[.c 5 0 [1000] [],.c 9 0 [1000] []],[]⟩),(10,⟨[],[.c 1 0 [1000] []],[]⟩),(12,⟨[.gc [0,2,3,6]],[],[]⟩),(13,⟨[],[.c 5 0 [1000] [],.c 9 0 [1000] []],[]⟩)]
@[irreducible] def d18:MC:=rdc (cK Tryz.prog Tryz.f30 f5e [] 3)
@[irreducible] def d7o:MC:=rdc (cK Tryz.prog Tryz.f30 f5e [(3,d18)] 7)
@[irreducible] def e5j:MC:=rdc (cK Tryz.prog Tryz.f30 f5e [(3,d18),(7,d7o)] 11)
instance:LI d18 0 0 [0,2,3] [3,2] (fun y:Int×Int×Int×(List a03)×x8=>[(4,.int .i64 y.1)]) (fun y=>[.p 3 0 [.int .i64 y.2.1],.p 3 1 [.int .i64 y.2.2.1],.p 3 2 [.osl 4050 3 0 y.2.2.2.1.length],.o 4050 (.arr 3 (y.2.2.2.1.map a03.v)),.o 1000 (.cells [.sl (y.2.2.2.2.L.map (V.int .i64)),.int .i64 y.2.2.2.2.at_])]) [.gc [0,2,3,4],.ownC 3 2 4050 3 none]:=⟨⟩
instance:LI d7o 0 0 [0,2,3] [3,4050,2] (fun y:Int×Int×Int×(List a08)×x8=>[(5,.int .i64 y.1)]) (fun y=>[.p 3 0 [.int .i64 y.2.1],.p 3 1 [.int .i64 y.2.2.1],.p 3 3 [.osl 4051 2 0 y.2.2.2.1.length],.o 4051 (.arr 2 (y.2.2.2.1.map a08.v)),.o 1000 (.cells [.sl (y.2.2.2.2.L.map (V.int .i64)),.int .i64 y.2.2.2.2.at_])]) [.gc [0,2,3,5],.ownC 3 3 4051 2 none]:=⟨⟩
instance:LI e5j 0 0 [0,2,3] [3,4050,4051,2] (fun y:Int×Int×Int×(List a0n)×x8=>[(6,.int .i64 y.1)]) (fun y=>[.p 3 0 [.int .i64 y.2.1],.p 3 1 [.int .i64 y.2.2.1],.p 3 4 [.osl 4052 2 0 y.2.2.2.1.length],.o 4052 (.arr 2 (y.2.2.2.1.map a0n.v)),.o 1000 (.cells [.sl (y.2.2.2.2.L.map (V.int .i64)),.int .i64 y.2.2.2.2.at_])]) [.gc [0,2,3,6],.ownC 3 4 4052 2 none]:=⟨⟩
instance h3y {t_:x8}:WI (e2c t_) Tryz.prog 30 [.ptr 1000 0] [(1000,.cells [.sl (t_.L.map (V.int .i64)),.int .i64 t_.at_])] (fun z=>l7.v z.1) (fun z=>[(1000,.cells [.sl (z.2.L.map (V.int .i64)),.int .i64 z.2.at_])]):=wX Tryz.func30 f5e [(3,d18),(7,d7o),(11,e5j)] [.fzc 2] [1000] (h:=fun _ _ h hQ M=>by unfold e2c at h;exact tX)
@[go_sem] def g2g (n_:Int) (x17:Int×(List Int)×x8):Option (Fl (Int×(List Int)×x8) ((List Int)×x8)) :=
 bif decide (x17.1<n_) then (F_t x17.2.2 [0,1,10,50,100]).bind fun y21=>chk (room (x17.2.1.length+[y21.1].length) 8) (chk (a0p (x17.1+1)) (some (.nx ((x17.1+1),(x17.2.1++[y21.1]),y21.2)))) else some (.ex (x17.2.1,x17.2.2))
def f2v (t_:x8) (n_:Int):Option ((List Int)×x8) :=
 (loop (g2g n_) (0,[],t_)).bind fun r22=>some (r22.1,r22.2)
def g5m:List (Nat×RN):=[(1,⟨[],[.k 0 1],[]⟩),(4,⟨[.gc [0,1,5,6]],[],[]⟩),(5,⟨[],[.k 2 2,.c 3 0 [1000] []],[]⟩)]
@[irreducible] def e5i:MC:=rdc (cK Tryz.prog Tryz.f31 g5m [] 3)
instance:LI e5i 0 0 [0,1] [] (fun y:Int×(List Int)×x8=>[(5,.osl 2005 1 0 y.2.1.length),(6,.int .i64 y.1)]) (fun y=>[.o 2005 (.arr 1 (y.2.1.map (V.int .i64))),.o 1000 (.cells [.sl (y.2.2.L.map (V.int .i64)),.int .i64 y.2.2.at_])]) [.gc [0,1,5,6],.acc 5 2005 1]:=⟨⟩
instance h29 {t_:x8} {n_:Int}:WI (f2v t_ n_) Tryz.prog 31 [.ptr 1000 0,.int .i64 n_] [(1000,.cells [.sl (t_.L.map (V.int .i64)),.int .i64 t_.at_])] (fun z=>.sl (z.1.map (V.int .i64))) (fun z=>[(1000,.cells [.sl (z.2.L.map (V.int .i64)),.int .i64 z.2.at_])]):=wX Tryz.func31 g5m [(3,e5i)] [.fz 4] [1000] (h:=fun _ _ h hQ M=>by unfold f2v at h;exact tX)
def f5t (tJ:Int):Option Bool :=
 grp ((decide (tJ<1)||decide (3<tJ))) fun b2=>some b2
instance g8i {tJ:Int}:WJ (f5t tJ) 246 [.int .i64 tJ] .bool:=wX Tryz.func246 [(1,⟨[],[],[.v 3 5]⟩)] (h:=fun _ _ h hQ M=>by unfold f5t at h;exact tX)
@[go_sem] def g2f (k31:Int) (a32:Int) (x30:Unit):Option (Fl Unit Int) :=
 (f5t a32).bind fun y40=>bif y40 then some (.ex k31) else some (.nx ())
def g1t (s_:List Int):Option Int :=
 (a10 g2f s_ 0 ()).bind fun o=>o.elim (fun x41=>some (-1)) (fun r42=>some r42)
@[irreducible] def e5h:MC:=rdc (cK Tryz.prog Tryz.f175 [] [] 2)
instance:LI e5h 8 7 [0,1,7] [] (fun y:Unit=>[]) (fun y=>[]) []:=⟨⟩
instance g85 {s_:List Int}:WJ (g1t s_) 175 [.sl (s_.map (V.int .i64)),.fn (.func 246) []] (.int .i64):=wX Tryz.func175 [] [(2,e5h)] (h:=fun _ _ h hQ M=>by unfold g1t at h;exact tX)
def f5s (s_:List Int):Option Bool :=
 (g1t s_).bind fun y2=>some (decide (0≤y2))
instance g8h {s_:List Int}:WJ (f5s s_) 112 [.sl (s_.map (V.int .i64)),.fn (.func 246) []] .bool:=wX Tryz.func112 (h:=fun _ _ h hQ M=>by unfold f5s at h;exact tX)
def e09 (d_:d9) (p_:Int):Option Bool :=
 grp ((decide (0≤p_)&&decide (p_<(d_.Kinds.length:Int)))) fun b2=>some b2
instance h0p {d_:d9} {p_:Int}:WJ (e09 d_ p_) 247 [d9.v d_,.int .i64 p_] .bool:=wX Tryz.func247 [(1,⟨[],[],[.v 3 8]⟩)] (h:=fun _ _ h hQ M=>by unfold e09 at h;exact tX)
def f1n (d_:d9) (p_:Int):Option Bool :=
 (e09 d_ p_).bind fun y3=>jn (α:=Bool) (bif y3 then chk (inb p_ d_.Kinds.length) (some (decide ((d_.Kinds.getD (p_).toNat default)=2))) else some false) fun j4=>some j4
instance e8k {m:List MOp}:GI (gjt 2480104 m) [4] [] (fun y:Bool=>[(15,.bool y)]) (fun y=>[]):=⟨⟩
instance g9h {d_:d9} {p_:Int}:WJ (f1n d_ p_) 248 [d9.v d_,.int .i64 p_] .bool:=wX Tryz.func248 [(1,⟨[],[],[.w 4 10 2480104]⟩)] (h:=fun _ _ h hQ M=>by unfold f1n at h;exact tX)
@[go_sem] def f6v (d_:d9) (k473:Int) (a474:a0f) (x472:Int):Option (Fl Int Int) :=
 grp (((!decide (a474.Kind=1))&&(!decide (a474.Kind=2)))) fun b595=>grp ((b595||decide (a474.Time<x472))) fun b596=>grp ((b596||decide (1099511627776<a474.Time))) fun b597=>bif b597 then grp (true) fun b598=>bif b598 then some (.ex 30) else some (.nx a474.Time) else (e09 d_ a474.Principal).bind fun y599=>bif (!y599) then grp (true) fun b600=>bif b600 then some (.ex 30) else some (.nx a474.Time) else (f1n d_ a474.Group).bind fun y601=>grp (((!y601)||decide (a474.Principal=a474.Group))) fun b602=>bif b602 then some (.ex 30) else some (.nx a474.Time)
def e1t (d_:d9):Option Int :=
 grp ((decide (24<(d_.Kinds.length:Int))||decide (120<(d_.Events.length:Int)))) fun b7=>bif b7 then some 30 else (f5s d_.Kinds).bind fun y8=>bif y8 then some 30 else (a10 (f6v d_) d_.Events 0 0).bind fun o=>o.elim (fun x603=>some 0) (fun r604=>some r604)
def g65:List (Nat×RN):=[(2,⟨[],[],[.v 5 9]⟩),(5,⟨[.gc [1,4,34,35,36,39,40,41,42,45,46,47,50,51,52,53,54,57,58,59,60,61,64,65,66,67,68]],[],[]⟩),(8,⟨[],[],[.v 4 7,.v 9 13,.v 15 18,.v 34 39]⟩),(10,⟨[.gc [1,6,24,25,26,34,35,36,39,40,41,42,45,46,47,50,51,52,53,54,57,58,59,60,61,64,65,66,67,68]],[],[]⟩)]
@[irreducible] def e75:MC:=rdc (cK Tryz.prog Tryz.f231 g65 [] 6)
instance:LI e75 26 25 [1,24,25] [1] (fun y:Int=>[(4,.int .i64 y)]) (fun y=>[]) []:=⟨⟩
instance h30 {d_:d9}:WJ (e1t d_) 231 [d9.v d_] (.int .i64):=wX Tryz.func231 g65 [(6,e75)] (h:=fun _ _ h hQ M=>by unfold e1t at h;exact tX)
def d4v (n_:Int) (jD:Int) (kC:Int):Option Bool :=
 grp ((decide (jD≤n_)&&decide (n_≤kC))) fun b2=>some b2
instance h28 {n_ jD kC:Int}:WJ (d4v n_ jD kC) 233 [.int .i64 n_,.int .i64 jD,.int .i64 kC] .bool:=wX Tryz.func233 [(1,⟨[],[],[.v 4 7]⟩)] (h:=fun _ _ h hQ M=>by unfold d4v at h;exact tX)
def F_u (jA:Int):Option Bool := (d4v jA 0 63).bind fun y2=>some y2
instance h4n {jA:Int}:WJ (F_u jA) 207 [.int .i64 jA] .bool:=wX Tryz.func207 (h:=fun _ _ h hQ M=>by unfold F_u at h;exact tX)
def d4u (a_:l5) (jB:Int):Option Bool :=
 chk (a0p (a_.Places - 1)) ((d4v jB 0 (a_.Places - 1)).bind fun y2=>some y2)
instance h26 {a_:l5} {jB:Int}:WJ (d4u a_ jB) 261 [l5.v a_,.int .i64 jB] .bool:=wX Tryz.func261 (h:=fun _ _ h hQ M=>by unfold d4u at h;exact tX)
def f4b (a_:l5) (x_:o9):Option Bool :=
 jn (α:=Bool×o9) (jn (α:=Bool) (bif decide (x_.Kind=1) then some true else some (decide (x_.Kind=2))) fun j7=>bif j7 then (d4v x_.Principal 0 23).bind fun y8=>some (y8,(o9.mk x_.Time x_.Kind x_.Place x_.Principal 0 0 0)) else bif decide (x_.Kind=3) then bif decide (x_.Time<x_.Until) then some (decide (x_.Until≤1099511627776),(o9.mk x_.Time x_.Kind x_.Place 0 x_.Until 0 0)) else some (false,(o9.mk x_.Time x_.Kind x_.Place 0 x_.Until 0 0)) else bif decide (x_.Kind=4) then some (true,(o9.mk x_.Time x_.Kind x_.Place 0 0 0 0)) else jn (α:=Bool) (bif decide (x_.Kind=5) then some true else some (decide (x_.Kind=6))) fun j9=>bif j9 then (F_u x_.Content).bind fun y10=>some (y10,(o9.mk x_.Time x_.Kind x_.Place 0 0 x_.Content 0)) else bif decide (x_.Kind=7) then (d4u a_ x_.From).bind fun y11=>bif y11 then some ((!decide (x_.From=x_.Place)),(o9.mk x_.Time x_.Kind x_.Place 0 0 0 x_.From)) else some (false,(o9.mk x_.Time x_.Kind x_.Place 0 0 0 x_.From)) else some (false,(o9.mk x_.Time x_.Kind x_.Place 0 0 0 0))) fun j6=>jn (α:=Bool) (bif j6.1 then (d4u a_ x_.Place).bind fun y16=>some y16 else some false) fun j17=>grp ((j17&&(decide (x_.Time=j6.2.Time)&&(decide (x_.Kind=j6.2.Kind)&&(decide (x_.Place=j6.2.Place)&&(decide (x_.Principal=j6.2.Principal)&&(decide (x_.Until=j6.2.Until)&&(decide (x_.Content=j6.2.Content)&&decide (x_.From=j6.2.From))))))))) fun b18=>some b18
def f5c:List (Nat×RN):=[(16,⟨[],[],[.w 2 6 2491602,.v 8 11]⟩)]
@[irreducible] def d10:MC:=rdc (cK Tryz.prog Tryz.f249 f5c [] 10000013)
@[irreducible] def d7a:MC:=rdc (cK Tryz.prog Tryz.f249 f5c [(10000013,d10)] 10000006)
@[irreducible] def e4i:MC:=rdc (cK Tryz.prog Tryz.f249 f5c [(10000013,d10),(10000006,d7a)] 10000016)
instance:LI d10 0 0 [2,3,5,6,15] [5,3,2] (fun y:Bool=>[(42,.bool y)]) (fun y=>[]) []:=⟨⟩
instance:LI d7a 0 0 [2,3,5,6,15] [5,3,2] (fun y:Bool=>[(16,.bool y)]) (fun y=>[]) []:=⟨⟩
instance e8j {m:List MOp}:GI (gjt 2491602 m) [3,5] [5,3] (fun y:Bool=>[(73,.bool y)]) (fun y=>[]):=⟨⟩
instance:LI e4i 0 0 [2,3,5] [3,2] (fun y:Bool×o9=>[(6,.bool y.1)]) (fun y=>[.o 5 (.cells [.int .i64 y.2.Time,.int .i64 y.2.Kind,.int .i64 y.2.Place,.int .i64 y.2.Principal,.int .i64 y.2.Until,.int .i64 y.2.Content,.int .i64 y.2.From])]) []:=⟨⟩
instance h3h {a_:l5} {x_:o9}:WJ (f4b a_ x_) 249 [l5.v a_,o9.v x_] .bool:=wX Tryz.func249 f5c [(10000013,d10),(10000006,d7a),(10000016,e4i)] (h:=fun _ _ h hQ M=>by unfold f4b at h;exact tX)
@[go_sem] def f6u (a_:l5) (k137:Int) (a138:o9) (x136:Int):Option (Fl Int Int) :=
 grp ((decide (a138.Time<x136)||decide (1099511627776<a138.Time))) fun b169=>bif b169 then some (.ex 34) else (f4b a_ a138).bind fun y170=>bif (!y170) then some (.ex 34) else some (.nx a138.Time)
def d4z (a_:l5):Option Int :=
 (d4v a_.Places 1 16).bind fun y7=>grp (((!y7)||decide (120<(a_.Events.length:Int)))) fun b8=>bif b8 then some 34 else (a10 (f6u a_) a_.Events 0 0).bind fun o=>o.elim (fun x171=>some 0) (fun r172=>some r172)
def g6h:List (Nat×RN):=[(1,⟨[],[],[.v 5 9]⟩),(4,⟨[.gc [1,3,28,29,30,33,34,35,36]],[],[]⟩),(7,⟨[],[],[.v 5 8]⟩),(9,⟨[.gc [1,5,17,18,19,28,29,30,33,34,35,36]],[],[]⟩)]
@[irreducible] def e74:MC:=rdc (cK Tryz.prog Tryz.f232 g6h [] 5)
instance:LI e74 19 18 [1,17,18] [1] (fun y:Int=>[(3,.int .i64 y)]) (fun y=>[]) []:=⟨⟩
instance h3w {a_:l5}:WJ (d4z a_) 232 [l5.v a_] (.int .i64):=wX Tryz.func232 g6h [(5,e74)] (h:=fun _ _ h hQ M=>by unfold d4z at h;exact tX)
def d3k (d_:d9) (a_:l5):Option Int :=
 (e1t d_).bind fun y4=>bif (!decide (y4=0)) then some y4 else (d4z a_).bind fun y6=>some y6
instance h2y {d_:d9} {a_:l5}:WJ (d3k d_ a_) 206 [d9.v d_,l5.v a_] (.int .i64):=wX Tryz.func206 [(4,⟨[.gc [3]],[],[]⟩)] (h:=fun _ _ h hQ M=>by unfold d3k at h;exact tX)
def d4t (d_:d9) (a_:l5) (jA:Int):Option Int :=
 (d3k d_ a_).bind fun y4=>bif (!decide (y4=0)) then some y4 else (F_u jA).bind fun y8=>bif (!y8) then some 2 else some 0
instance h25 {d_:d9} {a_:l5} {jA:Int}:WJ (d4t d_ a_ jA) 156 [d9.v d_,l5.v a_,.int .i64 jA] (.int .i64):=wX Tryz.func156 [(4,⟨[.gc [2]],[],[]⟩)] (h:=fun _ _ h hQ M=>by unfold d4t at h;exact tX)
def g48 (k20:Int) (a21:o9) (x19:List Int):Option (List Int) :=
 chk (room (x19.length+[a21.Time].length) 8) (some (x19++[a21.Time]))
def F_v (a_:l5):Option (List Int) := (d4z a_).bind fun y4=>bif (!decide (y4=0)) then some [] else (a0d g48 a_.Events 0 []).bind fun x22=>(a5g x22).bind fun y24=>some ((y24.2.drop 0).take y24.1)
def a_v:List (Nat×RN):=[(0,⟨[],[.k 1 1],[]⟩),(2,⟨[],[.k 0 1],[]⟩),(3,⟨[],[.k 0 1],[]⟩),(9,⟨[],[.c 1 0 [2003] []],[]⟩)]
@[irreducible] def d17:MC:=rdc (cK Tryz.prog Tryz.f234 a_v [] 5)
def g4l:MC:=rdc (cT Tryz.prog Tryz.f234 a_v [(5,d17)])
instance g81 {a_:l5}:WI (F_v a_) Tryz.prog 234 [l5.v a_] [] (fun z=>.osl 1900 1 0 z.length) (fun z=>[(1900,.arr 1 (z.map (V.int .i64)))]):=⟨fun Q Q' h hQ=>by
 refine a3a g4l [.gc [2],.trim 2,.acc 2 1900 1] [1900] [.t 2] Tryz.func234 fun M=>?_
 unfold F_v at h
 unfold g4l
 replace h:=tY h
 refine tB ?_
 repeat' (first
 | (exact tZ)
 | (refine And.intro (by refine ⟨?_,?_,?_,?_⟩<;>omega) ?_;first|exact hQ _ h|(rw [zP (by omega)];exact hQ _ h))
 | (rw [←hlen];exact hQ _ h)
 | (have hq:=hQ _ h;simp only [wB,Nat.min_eq_left hlen.1] at hq;exact hq)
 | ((first|refine b8n h ?_|refine a6x h ?_|refine b8p h ?_|refine b8o h ?_|refine b8q h ?_|refine appG h ?_|refine b8r h ?_|refine fork h ?_ ?_|refine a6y h ?_ ?_)<;>clear h<;>intro hc h)
 | (obtain ⟨y,hy,h⟩:=h;(first|(have hw:=a0w 1000 2003 (g6m hy);replace hw:=tY hw;(try simp only [hlen] at hw);have hlen:=b0s hy)|have hw:=WI.w hy);replace hw:=tY hw;(first|refine M.sC hw ?_|refine M.sD hw ?_);clear hw hy;refine tB ?_)
 | (refine M.fold1 (b:=d17) 12 [10,11] [] (fun x=>[(3,.osl 2003 1 0 x.length)]) (fun x=>[.o 2003 (.arr 1 (x.map (V.int .i64)))]) [.gc [3,10,11,12],.acc 3 2003 1] h ?_ ?_ ?_<;>first
 | (clear h;intro k a x Qn K hK1 hkN1 ha1 h hf;have hl:=a3h (a1d (n:=11) hf.1 rfl);clear hf;have hkd:=kD hkN1;have hkB1:=kB hkN1;have hkI1:=kI (k:=k) (by omega);(try simp only [hlen] at hkd hkB1 hkN1);unfold g48 at h;unfold d17;replace h:=tY h;refine tK ha1 hkd hkN1 hkB1 hkI1 ?_)
  |(clear h;intro x K h;replace h:=And.left (And.intro h trivial);(try simp only [hlen]);unfold d17;replace h:=tY h;refine tB ?_)
  |(clear h;(try refine tB ?_);exact tU0;done))
 | (simp only [ha1])
 | (refine hK1 _ ?_;(try refine tB ?_);refine ⟨_,h,?_⟩;exact tU0;done)
 | (refine tE ?_;(first|rw [M.lok_compU]|rw [M.lokD_compU]);refine tB ?_)
 | (refine tA ?_)
 | fail)⟩
def g46 (k18:Int) (a19:a0f) (x17:List Int):Option (List Int) :=
 chk (room (x17.length+[a19.Time].length) 8) (some (x17++[a19.Time]))
def f4g (d_:d9) (a_:l5):Option (List Int) :=
 (F_v a_).bind fun y2=>(a0d g46 d_.Events 0 y2).bind fun x20=>(b1s x20).bind fun y22=>(a5g y22).bind fun y24=>some ((y24.2.drop 0).take y24.1)
def g6g:List (Nat×RN):=[(1,⟨[],[.c 1 0 [] [9]],[]⟩),(7,⟨[],[.c 1 0 [2005] []],[]⟩),(8,⟨[],[.c 1 0 [2005] []],[]⟩)]
@[irreducible] def d16:MC:=rdc (cK Tryz.prog Tryz.f208 g6g [] 3)
def e7m:MC:=rdc (cT Tryz.prog Tryz.f208 g6g [(3,d16)])
instance h3v {d_:d9} {a_:l5}:WI (f4g d_ a_) Tryz.prog 208 [d9.v d_,l5.v a_] [] (fun z=>.sl (z.map (V.int .i64))) (fun z=>[]):=⟨fun Q Q' h hQ=>by
 refine a3a e7m [.fz 4] [] [.t 4] Tryz.func208 fun M=>?_
 unfold f4g at h
 unfold e7m
 replace h:=tY h
 refine tB ?_
 repeat' (first
 | (exact tZ)
 | (refine And.intro (by refine ⟨?_,?_,?_,?_⟩<;>omega) ?_;first|exact hQ _ h|(rw [zP (by omega)];exact hQ _ h))
 | (rw [←hlen];exact hQ _ h)
 | (have hq:=hQ _ h;simp only [wB,Nat.min_eq_left hlen.1] at hq;exact hq)
 | ((first|refine b8n h ?_|refine a6x h ?_|refine b8p h ?_|refine b8o h ?_|refine b8q h ?_|refine appG h ?_|refine b8r h ?_|refine fork h ?_ ?_|refine a6y h ?_ ?_)<;>clear h<;>intro hc h)
 | (obtain ⟨y,hy,h⟩:=h;(first|have hw:=a0w 1900 9 (g81.c.w hy)|(have hw:=a0w 1000 2005 (g1q hy);replace hw:=tY hw;(try simp only [hlen] at hw);have hlen:=b1r hy)|(have hw:=a0w 1000 2005 (g6m hy);replace hw:=tY hw;(try simp only [hlen] at hw);have hlen:=b0s hy));replace hw:=tY hw;(first|refine M.sC hw ?_|refine M.sD hw ?_);clear hw hy;refine tB ?_)
 | (refine M.fold1 (b:=d16) 13 [11,12] [] (fun x=>[(5,.osl 2005 1 0 x.length)]) (fun x=>[.o 2005 (.arr 1 (x.map (V.int .i64)))]) [.gc [5,11,12,13],.acc 5 2005 1] h ?_ ?_ ?_<;>first
 | (clear h;intro k a x Qn K hK1 hkN1 ha1 h hf;have hl:=a3h (a1d (n:=12) hf.1 rfl);clear hf;have hkd:=kD hkN1;have hkB1:=kB hkN1;have hkI1:=kI (k:=k) (by omega);(try simp only [hlen] at hkd hkB1 hkN1);unfold g46 at h;unfold d16;replace h:=tY h;refine tK ha1 hkd hkN1 hkB1 hkI1 ?_)
  |(clear h;intro x K h;replace h:=And.left (And.intro h trivial);(try simp only [hlen]);unfold d16;replace h:=tY h;refine tB ?_)
  |(clear h;(try refine tB ?_);exact tU0;done))
 | (simp only [ha1])
 | (refine hK1 _ ?_;(try refine tB ?_);refine ⟨_,h,?_⟩;exact tU0;done)
 | (refine tE ?_;(first|rw [M.lok_compU]|rw [M.lokD_compU]);refine tB ?_)
 | (refine tA ?_)
 | fail)⟩
def e08 (jA:Int):Option Int :=
 chk (e2z jA 64) (some (IntKind.wrap .u64 (1*2^(jA).toNat)))
instance h0o {jA:Int}:WJ (e08 jA) 253 [.int .i64 jA] fun z=>.int .u64 z:=wX Tryz.func253 (h:=fun _ _ h hQ M=>by unfold e08 at h;exact tX)
def d3m (s_:List Int) (x_:o9):Option (List Int) :=
 bif decide (x_.Kind=5) then chk (inb x_.Place s_.length) ((e08 x_.Content).bind fun y1=>chk (inb x_.Place s_.length) (some (s_.set ((x_.Place).toNat) (bits .or .u64 (s_.getD ((x_.Place).toNat) default) y1)))) else bif decide (x_.Kind=6) then chk (inb x_.Place s_.length) ((e08 x_.Content).bind fun y2=>chk (inb x_.Place s_.length) (some (s_.set ((x_.Place).toNat) (bits .andNot .u64 (s_.getD ((x_.Place).toNat) default) y2)))) else bif decide (x_.Kind=7) then chk (inb x_.Place s_.length) (chk (inb x_.From s_.length) (chk (inb x_.Place s_.length) (some (s_.set ((x_.Place).toNat) (bits .or .u64 (s_.getD ((x_.Place).toNat) default) (s_.getD ((x_.From).toNat) default)))))) else some s_
instance g1l {s_:List Int} {x_:o9}:WI (d3m s_ x_) Tryz.prog 272 [.osl 1000 1 0 s_.length,o9.v x_] [(1000,.arr 1 (s_.map (V.int .u64)))] (fun z=>.tup []) (fun z=>[(1000,.arr 1 (z.map (V.int .u64)))]):=wX Tryz.func272 [(7,⟨[.gc [0,3]],[],[]⟩)] [] [] [1000] (h:=fun _ _ h hQ M=>by unfold d3m at h;exact tX)
theorem h4i {s_:List Int} {x_:o9} {y:List Int} (h:(d3m s_ x_)=some y):y.length=s_.length:=by
 simp only [d3m,chk,cond_eq_ite,zL] at h
 repeat' (first|(split at h)|(simp only [zL] at h)|(obtain ⟨_,_,h⟩:=h)|(cases h;done)|(obtain rfl:=wJ h;simp;done)|(simp;done)|(subst h;simp;done))
def f7o (t_:Int) (k30:Int) (a31:o9) (x29:List Int):Option (List Int) :=
 bif decide (a31.Time≤t_) then (d3m x29 a31).bind fun y35=>some y35 else some x29
def F_j (a_:l5) (t_:Int):Option (List Int) := chk (b0z a_.Places a_.Places 8) ((a0d (f7o t_) a_.Events 0 (List.replicate (a_.Places).toNat 0)).bind fun x36=>some x36)
def a_j:List (Nat×RN):=[(6,⟨[],[.c 2 0 [10] []],[]⟩)]
@[irreducible] def d1i:MC:=rdc (cK Tryz.prog Tryz.f252 a_j [] 3)
def g4o:MC:=rdc (cT Tryz.prog Tryz.f252 a_j [(3,d1i)])
instance h4w {a_:l5} {t_:Int}:WI (F_j a_ t_) Tryz.prog 252 [l5.v a_,.int .i64 t_] [] (fun z=>.sl (z.map (V.int .u64))) (fun z=>[]):=⟨fun Q Q' h hQ=>by
 refine a3a g4o [.fz 4] [] [.t 4] Tryz.func252 fun M=>?_
 unfold F_j at h
 unfold g4o
 replace h:=tY h
 refine tB ?_
 repeat' (first
 | (exact tZ)
 | (rw [zP (by omega)];exact hQ _ h)
 | ((first|refine b8n h ?_|refine a6x h ?_|refine b8p h ?_|refine b8o h ?_|refine b8q h ?_|refine appG h ?_|refine b8r h ?_|refine fork h ?_ ?_|refine a6y h ?_ ?_)<;>clear h<;>intro hc h)
 | (obtain ⟨y,hy,h⟩:=h;(have hw:=a0w 1000 10 (g1l.c.w hy);replace hw:=tY hw;have hlen:=h4i hy);replace hw:=tY hw;(first|refine M.sC hw ?_|refine M.sD hw ?_);clear hw hy;refine tB ?_)
 | (refine M.fold1 (b:=d1i) 14 [1,12,13] [] (fun x=>[(5,.osl 10 1 0 x.length)]) (fun x=>[.o 10 (.arr 1 (x.map (V.int .u64)))]) [] h ?_ ?_ ?_<;>first
 | (clear h;intro k a x Qn K hK1 hkN1 ha1 h hf;have hl:=a3h (a1d (n:=13) hf.1 rfl);clear hf;have hkd:=kD hkN1;have hkB1:=kB hkN1;have hkI1:=kI (k:=k) (by omega);(try simp only [hlen] at hkd hkB1 hkN1);unfold f7o at h;unfold d1i;replace h:=tY h;refine tK ha1 hkd hkN1 hkB1 hkI1 ?_)
  |(clear h;intro x K h;replace h:=And.left (And.intro h trivial);(try simp only [hlen]);unfold d1i;replace h:=tY h;refine tB ?_)
  |(clear h;(try refine tB ?_);exact tU;done))
 | (simp only [ha1])
 | (refine hK1 _ ?_;(try refine tB ?_);refine ⟨_,h,?_⟩;exact tU;done)
 | (refine tE ?_;(first|rw [M.lok_compU]|rw [M.lokD_compU]);refine tB ?_)
 | (refine tA ?_)
 | fail)⟩
@[go_sem] def f6t (jA:Int) (k56:Int) (a57:Int) (x55:List Int):Option (List Int) :=
 (e08 jA).bind fun y65=>bif (!decide ((bits .and .u64 a57 y65)=0)) then chk (room (x55.length+[k56].length) 8) (some (x55++[k56])) else some x55
def d4y (a_:l5) (jA:Int) (t_:Int):Option (List Int) :=
 (d4z a_).bind fun y7=>bif (!decide (y7=0)) then some [] else (F_u jA).bind fun y8=>bif (!y8) then some [] else (F_j a_ t_).bind fun y37=>(a0d (f6t jA) y37 0 []).bind fun x66=>some x66
def g6f:List (Nat×RN):=[(3,⟨[],[.k 0 1],[]⟩),(4,⟨[.gc [1,2,3,7]],[],[]⟩),(8,⟨[.gc [1,7,8,20,21,22]],[],[]⟩)]
@[irreducible] def e73:MC:=rdc (cK Tryz.prog Tryz.f237 g6f [] 5)
instance:LI e73 22 21 [1,20,21] [] (fun y:List Int=>[(7,.osl 2007 1 0 y.length)]) (fun y=>[.o 2007 (.arr 1 (y.map (V.int .i64)))]) [.gc [1,7,20,21,22],.acc 7 2007 1]:=⟨⟩
instance h3u {a_:l5} {jA t_:Int}:WJ (d4y a_ jA t_) 237 [l5.v a_,.int .i64 jA,.int .i64 t_] fun z=>.sl (z.map (V.int .i64)):=wX Tryz.func237 g6f [(5,e73)] [.fz 6] (h:=fun _ _ h hQ M=>by unfold d4y at h;exact tX)
def F_3 (a_:l5) (jB:Int):Option Bool := (d4z a_).bind fun y4=>jn (α:=Bool) (bif decide (y4=0) then (d4u a_ jB).bind fun y6=>some y6 else some false) fun j7=>some j7
instance e8i {m:List MOp}:GI (gjt 2540104 m) [4] [] (fun y:Bool=>[(12,.bool y)]) (fun y=>[]):=⟨⟩
instance h5e {a_:l5} {jB:Int}:WJ (F_3 a_ jB) 254 [l5.v a_,.int .i64 jB] .bool:=wX Tryz.func254 [(1,⟨[],[],[.w 4 7 2540104]⟩)] (h:=fun _ _ h hQ M=>by unfold F_3 at h;exact tX)
def f5j (jB:Int) (t_:Int) (k24:Int) (a19:Int×o9) (x18:Unit):Option (Fl Unit (Int×Bool)) :=
 grp ((decide (t_<a19.2.Time)||(!decide (a19.2.Place=jB)))) fun b26=>bif b26 then some (.nx ()) else bif decide (a19.2.Kind=4) then some (.ex (0,false)) else grp ((decide (a19.2.Kind=3)&&decide (t_<a19.2.Until))) fun b28=>bif b28 then some (.ex (a19.1,true)) else some (.nx ())
def F_9 (a_:l5) (jB:Int) (t_:Int):Option (Int×Bool) := (F_3 a_ jB).bind fun y4=>bif (!y4) then some (0,false) else (d9n a_.Events).bind fun y17=>(a10 (f5j jB t_) (c96 a_.Events) 0 ()).bind fun o=>o.elim (fun x29=>some (0,false)) (fun r30=>some r30)
@[irreducible] def d71:List MOp:=rdc (cG Tryz.prog Tryz.f238 [] 6 5 9)
@[irreducible] def d70:List MOp:=rdc (cG Tryz.prog Tryz.f238 [] 9 4 8)
def a_9:List (Nat×RN):=[(6,⟨[.gc [4,5,6,7,8,9,25,26,27,28,39,40,41,42]],[],[.u 5 9 d71]⟩),(7,⟨[.gc [5,6,7,8,9,39,40,41,42]],[],[]⟩),(9,⟨[],[],[.u 4 8 d70]⟩),(10,⟨[.gc [6,7,8]],[],[]⟩)]
@[irreducible] def d79:MC:=rdc (cK Tryz.prog Tryz.f238 a_9 [] 6)
def g4s:MC:=rdc (cT Tryz.prog Tryz.f238 a_9 [(6,d79)])
instance h59 {a_:l5} {jB t_:Int}:WI (F_9 a_ jB t_) Tryz.prog 238 [l5.v a_,.int .i64 jB,.int .i64 t_] [] (fun z=>.tup [.int .i64 z.1,.bool z.2]) (fun z=>[]):=⟨fun Q Q' h hQ=>by
 refine a3a g4s [] [] [.c 6 none,.c 7 none] Tryz.func238 fun M=>?_
 unfold F_9 at h
 unfold g4s
 replace h:=tY h
 refine tB ?_
 repeat' (first
 | (exact tZ)
 | ((first|refine b8n h ?_|refine a6x h ?_|refine b8p h ?_|refine b8o h ?_|refine b8q h ?_|refine appG h ?_|refine b8r h ?_|refine fork h ?_ ?_|refine a6y h ?_ ?_)<;>clear h<;>intro hc h)
 | (obtain ⟨y,hy,h⟩:=h;(first|have hw:=h4c (f:=o9.v) hy|have hw:=WI.w hy);replace hw:=tY hw;(first|refine M.sC hw ?_|refine M.sD hw ?_);clear hw hy;refine tB ?_)
 | (refine M.gv1 (ms:=d70) 43 [39,40,41,42] h ?_ ?_<;>first
 | (clear h;intro K hK1;unfold d70;refine tB ?_)
 | (clear h;intro b h;replace h:=tY h;refine tB ?_))
 | (refine M.gv1 (ms:=d71) 29 [25,26,27,28] h ?_ ?_<;>first
 | (clear h;intro K hK2;unfold d71;refine tB ?_)
 | (clear h;intro b h;replace h:=tY h;refine tB ?_))
 | (refine M.rfor (b:=d79) (enc:=fun a=>[.int .i64 a.1,o9.v a.2]) [3,4,5,6,7] [3,7,6,5,4] (fun x=>[]) [] h rfl (h4b fun a=>⟨_,rfl,rfl,rfl⟩) rfl (fun a=>⟨rfl,rfl⟩) ?_ ?_ rfl ?_<;>first
 | (clear h;intro k a x Qn K hK3 hkN3 h hf;clear hf;unfold f5j at h;unfold d79;replace h:=tY h;refine tB ?_)
  |(clear h;intro x h;replace h:=tY h;refine tB ?_)
  |(clear h;(try refine tB ?_);exact tU0;done))
 | ((first|refine hK1 _ ?_|refine hK2 _ ?_);exact tU;done)
 | (refine hK3 _ ?_;(try refine tB ?_);refine ⟨_,h,?_⟩;exact tU0;done)
 | (refine d30 (fun hc=>?_) (fun hc=>?_))
 | (refine tE ?_;(first|rw [M.lok_compU]|rw [M.lokD_compU]);refine tB ?_)
 | (refine tA ?_)
 | fail)⟩
def f1m (d_:d9) (p_:Int):Option Bool :=
 grp ((decide (0≤p_)&&decide (p_<(d_.Kinds.length:Int)))) fun b3=>jn (α:=Bool) (bif b3 then chk (inb p_ d_.Kinds.length) (some (!decide ((d_.Kinds.getD (p_).toNat default)=2))) else some false) fun j4=>some j4
instance e8f {m:List MOp}:GI (gjt 2740110 m) [4] [] (fun y:Bool=>[(21,.bool y)]) (fun y=>[]):=⟨⟩
instance g9g {d_:d9} {p_:Int}:WJ (f1m d_ p_) 274 [d9.v d_,.int .i64 p_] .bool:=wX Tryz.func274 [(1,⟨[],[],[.v 3 8,.w 10 16 2740110]⟩)] (h:=fun _ _ h hQ M=>by unfold f1m at h;exact tX)
def f1l (d_:d9) (a_:l5) (p_:Int) (jB:Int):Option Bool :=
 (d3k d_ a_).bind fun y6=>jn (α:=Bool) (bif decide (y6=0) then (f1m d_ p_).bind fun y8=>some y8 else some false) fun j9=>jn (α:=Bool) (bif j9 then (d4u a_ jB).bind fun y11=>some y11 else some false) fun j12=>some j12
instance e8g {m:List MOp}:GI (gjt 2560110 m) [8] [] (fun y:Bool=>[(22,.bool y)]) (fun y=>[]):=⟨⟩
instance e8h {m:List MOp}:GI (gjt 2560105 m) [3,5,8] [5] (fun y:Bool=>[(17,.bool y)]) (fun y=>[]):=⟨⟩
instance g9f {d_:d9} {a_:l5} {p_ jB:Int}:WJ (f1l d_ a_ p_ jB) 256 [d9.v d_,l5.v a_,.int .i64 p_,.int .i64 jB] .bool:=wX Tryz.func256 [(1,⟨[],[],[.w 5 8 2560105,.w 10 13 2560110]⟩)] (h:=fun _ _ h hQ M=>by unfold f1l at h;exact tX)
def f1k (d_:d9) (p_:Int):Option Bool :=
 (e1t d_).bind fun y4=>jn (α:=Bool) (bif decide (y4=0) then (e09 d_ p_).bind fun y6=>some y6 else some false) fun j7=>some j7
instance e8c {m:List MOp}:GI (gjt 2890104 m) [4] [] (fun y:Bool=>[(12,.bool y)]) (fun y=>[]):=⟨⟩
instance g9e {d_:d9} {p_:Int}:WJ (f1k d_ p_) 289 [d9.v d_,.int .i64 p_] .bool:=wX Tryz.func289 [(1,⟨[],[],[.w 4 7 2890104]⟩)] (h:=fun _ _ h hQ M=>by unfold f1k at h;exact tX)
@[go_sem] def f7i (k351:Int) (a352:Bool) (x350:(List Int)×(List Bool)):Option ((List Int)×(List Bool)) :=
 jn (α:=Bool) (bif a352 then chk (inb k351 x350.2.length) (some (!(x350.2.getD ((k351).toNat) default))) else some false) fun j360=>bif j360 then chk (room (x350.1.length+[k351].length) 8) (chk (inb k351 x350.2.length) (some ((x350.1++[k351]),x350.2.set ((k351).toNat) true))) else some (x350.1,x350.2)
@[go_sem] def g2e (x_:List (List Bool)) (x257:(List Int)×(List Bool)):Option (Fl ((List Int)×(List Bool)) (List Bool)) :=
 bif decide (0<(x257.1.length:Int)) then chk (inb 0 x257.1.length) (chk (inb (x257.1.getD 0 default) x_.length) ((a0d f7i (x_.getD (x257.1.getD 0 default).toNat default) 0 (x257.1,x257.2)).bind fun x361=>chk (inc 1 (x361.1.length:Int) x361.1.length) (some (.nx ((x361.1.drop 1).take (x361.1.length - 1),x361.2))))) else some (.ex x257.2)
def f3q (x_:List (List Bool)) (p_:Int):Option (List Bool) :=
 chk (b0z (x_.length:Int) (x_.length:Int) 1) (chk (inb p_ (List.replicate ((x_.length:Int)).toNat false).length) ((loop (g2e x_) ([p_],(List.replicate ((x_.length:Int)).toNat false).set ((p_).toNat) true)).bind fun r362=>some r362))
def g0s:List (Nat×RN):=[(9,⟨[],[],[.w 2 7 2920902]⟩)]
@[irreducible] def d80:MC:=rdc (cK Tryz.prog Tryz.f292 g0s [] 7)
@[irreducible] def e5g:MC:=rdc (cK Tryz.prog Tryz.f292 g0s [(7,d80)] 4)
instance e8b {m:List MOp}:GI (gjt 2920902 m) [0,5,6,7,27,28,29] [2006,11] (fun y:Bool=>[(41,.bool y)]) (fun y=>[]):=⟨⟩
instance:LI d80 29 28 [0,27,28] [] (fun y:(List Int)×(List Bool)=>[(5,.osl 11 1 0 y.2.length),(6,.osl 2006 1 0 y.1.length)]) (fun y=>[.o 2006 (.arr 1 (y.1.map (V.int .i64))),.o 11 (.arr 1 (y.2.map V.bool))]) [.gc [0,5,6,27,28,29],.acc 6 2006 1]:=⟨⟩
instance:LI e5g 0 0 [0] [] (fun y:(List Int)×(List Bool)=>[(5,.osl 11 1 0 y.2.length),(6,.osl 2006 1 0 y.1.length)]) (fun y=>[.o 2006 (.arr 1 (y.1.map (V.int .i64))),.o 11 (.arr 1 (y.2.map V.bool))]) [.gc [0,5,6],.trim 6,.acc 6 2006 1]:=⟨⟩
instance h2w {x_:List (List Bool)} {p_:Int}:WJ (f3q x_ p_) 292 [.sl (x_.map (slV V.bool)),.int .i64 p_] fun z=>.sl (z.map V.bool):=wX Tryz.func292 g0s [(7,d80),(4,e5g)] [.fz 4] (h:=fun _ _ h hQ M=>by unfold f3q at h;exact tX)
@[go_sem] def f6s (k16:Int) (a17:Bool) (x15:List Int):Option (List Int) :=
 bif a17 then chk (room (x15.length+[k16].length) 8) (some (x15++[k16])) else some x15
def e1s (l_:List Bool):Option (List Int) :=
 (a0d f6s l_ 0 []).bind fun x18=>some x18
def g64:List (Nat×RN):=[(1,⟨[],[.k 0 1],[]⟩)]
@[irreducible] def e72:MC:=rdc (cK Tryz.prog Tryz.f290 g64 [] 3)
instance:LI e72 8 7 [6,7] [] (fun y:List Int=>[(3,.osl 2003 1 0 y.length)]) (fun y=>[.o 2003 (.arr 1 (y.map (V.int .i64)))]) [.gc [3,6,7,8],.acc 3 2003 1]:=⟨⟩
instance h2v {l_:List Bool}:WJ (e1s l_) 290 [.sl (l_.map V.bool)] fun z=>.sl (z.map (V.int .i64)):=wX Tryz.func290 g64 [(3,e72)] [.fz 2] (h:=fun _ _ h hQ M=>by unfold e1s at h;exact tX)
def e1r (d_:d9) (p_:Int) (t_:Int):Option (List Int) :=
 (f1k d_ p_).bind fun y4=>bif (!y4) then some [] else (atF d_.Kinds.length (d_.Events.map fun e=>(e.Time,e.Kind,e.Principal,e.Group)) t_).bind fun y8=>(f3q y8 p_).bind fun y9=>(e1s y9).bind fun y10=>some y10
def e7i:MC:=rdc (cT Tryz.prog Tryz.f275 [] [])
instance h2u {d_:d9} {p_ t_:Int}:WI (e1r d_ p_ t_) Tryz.prog 275 [d9.v d_,.int .i64 p_,.int .i64 t_] [] (fun z=>.sl (z.map (V.int .i64))) (fun z=>[]):=⟨fun Q Q' h hQ=>by
 refine a3a e7i [.fz 6] [] [.t 6] Tryz.func275 fun M=>?_
 unfold e1r at h
 unfold e7i
 replace h:=tY h
 refine tB ?_
 repeat' (first
 | (exact tZ)
 | ((first|refine b8n h ?_|refine a6x h ?_|refine b8p h ?_|refine b8o h ?_|refine b8q h ?_|refine appG h ?_|refine b8r h ?_|refine fork h ?_ ?_|refine a6y h ?_ ?_)<;>clear h<;>intro hc h)
 | (obtain ⟨y,hy,h⟩:=h;(first|have hw:=h4g (f:=a0f.v) (e4:=fun e=>(e.Time,e.Kind,e.Principal,e.Group)) (fun _=>rfl) hy|have hw:=WI.w hy);replace hw:=tY hw;(first|refine M.sC hw ?_|refine M.sD hw ?_);clear hw hy;refine tB ?_)
 | (refine tE ?_;(first|rw [M.lok_compU]|rw [M.lokD_compU]);refine tB ?_)
 | (refine tA ?_)
 | fail)⟩
@[go_sem] def f6r (jB:Int) (t_:Int) (k44:Int) (a45:o9) (x43:List (Int×Int)):Option (List (Int×Int)) :=
 grp ((decide (t_<a45.Time)||(!decide (a45.Place=jB)))) fun b53=>bif b53 then some x43 else bif decide (a45.Kind=1) then some (a7q a45.Principal k44 x43) else bif decide (a45.Kind=2) then some (b8g a45.Principal x43) else some x43
def f2u (a_:l5) (jB:Int) (t_:Int):Option (List (Int×Int)) :=
 (a0d (f6r jB t_) a_.Events 0 []).bind fun x54=>some x54
def g5l:List (Nat×RN):=[(5,⟨[],[],[.v 5 9]⟩),(6,⟨[.gc [1,2,7,8,9,12,13,14,25,26,27,28]],[],[]⟩),(9,⟨[.gc [1,2,7,9,12,13,14,25,26,27,28]],[],[]⟩)]
@[irreducible] def e71:MC:=rdc (cK Tryz.prog Tryz.f293 g5l [] 3)
instance:LI e71 14 13 [1,2,7,12,13] [] (fun y:List (Int×Int)=>[]) (fun y=>[.o 10 (.map (.int .i64) (y.map (kvV (V.int .i64) (V.int .i64))))]) []:=⟨⟩
instance h24 {a_:l5} {jB t_:Int}:WJ (f2u a_ jB t_) 293 [l5.v a_,.int .i64 jB,.int .i64 t_] fun z=>(mpV (.int .i64) (V.int .i64) (V.int .i64)) z:=wX Tryz.func293 g5l [(3,e71)] [.fz 6] (h:=fun _ _ h hQ M=>by unfold f2u at h;exact tX)
def g3o (k21:Int) (a19:Int×Int) (x18:List Int):Option (List Int) :=
 chk (room (x18.length+[a19.1].length) 8) (some (x18++[a19.1]))
def F_e (a_:l5) (jB:Int) (t_:Int):Option (List Int) := (F_3 a_ jB).bind fun y4=>bif (!y4) then some [] else (f2u a_ jB t_).bind fun y15=>b6v (fun l20=>(a0d g3o l20 0 []).bind fun x22=>(b1s x22).bind fun y24=>some y24) y15
def a_e:List (Nat×RN):=[(3,⟨[],[.k 0 1],[]⟩),(8,⟨[],[.c 1 0 [2007] []],[]⟩)]
@[irreducible] def d7n:MC:=rdc (cK Tryz.prog Tryz.f276 a_e [] 5)
def g4q:MC:=rdc (cT Tryz.prog Tryz.f276 a_e [(5,d7n)])
instance h53 {a_:l5} {jB t_:Int}:WI (F_e a_ jB t_) Tryz.prog 276 [l5.v a_,.int .i64 jB,.int .i64 t_] [] (fun z=>.sl (z.map (V.int .i64))) (fun z=>[]):=⟨fun Q Q' h hQ=>by
 refine a3a g4q [.fz 6] [] [.t 6] Tryz.func276 fun M=>?_
 unfold F_e at h
 unfold g4q
 replace h:=tY h
 refine tB ?_
 repeat' (first
 | (exact tZ)
 | (refine And.intro (by refine ⟨?_,?_,?_,?_⟩<;>omega) ?_;first|exact hQ _ h|(rw [zP (by omega)];exact hQ _ h))
 | (rw [←hlen];exact hQ _ h)
 | (have hq:=hQ _ h;simp only [wB,Nat.min_eq_left hlen.1] at hq;exact hq)
 | ((first|refine b8n h ?_|refine a6x h ?_|refine b8p h ?_|refine b8o h ?_|refine b8q h ?_|refine appG h ?_|refine b8r h ?_|refine fork h ?_ ?_|refine a6y h ?_ ?_)<;>clear h<;>intro hc h)
 | (obtain ⟨y,hy,h⟩:=h;(first|(have hw:=a0w 1000 2007 (g1q hy);replace hw:=tY hw;(try simp only [hlen] at hw);have hlen:=b1r hy)|have hw:=WI.w hy);replace hw:=tY hw;(first|refine M.sC hw ?_|refine M.sD hw ?_);clear hw hy;refine tB ?_)
 | (refine M.mfold1 (b:=d7n) (kv:=(kvV (V.int .i64) (V.int .i64))) 17 [17] [] (fun x=>[(7,.osl 2007 1 0 x.length)]) (fun x=>[.o 2007 (.arr 1 (x.map (V.int .i64)))]) [.gc [7,17],.acc 7 2007 1] h ?_ ?_<;>first
 | (clear h;intro rem cur x k Qn K hK1 hs1 hn1;unfold g3o at hn1;unfold d7n;refine tB ?_)
 | (clear h;(try refine tB ?_);exact tU0;done))
 | (refine c6h hs1 hn1 ?_ ?_<;>first
  |(intro h;rw [M.lok_eq];replace h:=tY h;refine tB ?_)
  |(intro i a h;rw [M.lok_eq];replace h:=tY h;refine tB ?_))
 | (apply hK1;(try refine tB ?_);refine ⟨_,h,?_⟩;exact tU0;done)
 | (refine tE ?_;(first|rw [M.lok_compU]|rw [M.lokD_compU]);refine tB ?_)
 | (refine tA ?_)
 | fail)⟩
@[go_sem] def f6q (y2:List Int) (k37:Int) (a38:Int) (x36:Unit):Option (Fl Unit (Int×Bool)) :=
 (e0g y2 a38).bind fun y46=>bif y46 then some (.ex (a38,true)) else some (.nx ())
def f2t (d_:d9) (a_:l5) (p_:Int) (jB:Int) (t_:Int):Option (Int×Bool) :=
 (e1r d_ p_ t_).bind fun y2=>(F_e a_ jB t_).bind fun y25=>(a10 (f6q y2) y25 0 ()).bind fun o=>o.elim (fun x47=>some (0,false)) (fun r48=>some r48)
def g5k:List (Nat×RN):=[(2,⟨[.gc [3,4,6,12]],[],[]⟩),(6,⟨[.gc [14]],[],[]⟩)]
@[irreducible] def e70:MC:=rdc (cK Tryz.prog Tryz.f257 g5k [] 3)
instance:LI e70 24 23 [12,22,23] [] (fun y:Unit=>[]) (fun y=>[]) []:=⟨⟩
instance h1y {d_:d9} {a_:l5} {p_ jB t_:Int}:WJ (f2t d_ a_ p_ jB t_) 257 [d9.v d_,l5.v a_,.int .i64 p_,.int .i64 jB,.int .i64 t_] fun z=>.tup [.int .i64 z.1,.bool z.2]:=wX Tryz.func257 g5k [(3,e70)] (h:=fun _ _ h hQ M=>by unfold f2t at h;exact tX)
def f1j (d_:d9) (a_:l5) (p_:Int) (jB:Int) (t_:Int):Option Bool :=
 (f1l d_ a_ p_ jB).bind fun y4=>bif (!y4) then some false else (F_9 a_ jB t_).bind fun y6=>(f2t d_ a_ p_ jB t_).bind fun y8=>grp ((y6.2||y8.2)) fun b10=>some b10
instance g9d {d_:d9} {a_:l5} {p_ jB t_:Int}:WJ (f1j d_ a_ p_ jB t_) 239 [d9.v d_,l5.v a_,.int .i64 p_,.int .i64 jB,.int .i64 t_] .bool:=wX Tryz.func239 [(3,⟨[.gc [2,3,4,5,6,39]],[],[]⟩),(4,⟨[.gc [2,3,4,5,6,12,39]],[],[]⟩),(5,⟨[.gc [12,14,39]],[],[.v 2 3]⟩)] (h:=fun _ _ h hQ M=>by unfold f1j at h;exact tX)
@[go_sem] def f6p (d_:d9) (a_:l5) (p_:Int) (t_:Int) (k75:Int) (a76:Int) (x74:Unit):Option (Fl Unit (Int×Bool)) :=
 (F_9 a_ a76 t_).bind fun y96=>grp ((decide (p_=(-1))&&y96.2)) fun b99=>bif b99 then some (.ex (a76,true)) else bif (!decide (p_=(-1))) then (f1j d_ a_ p_ a76 t_).bind fun y100=>bif y100 then some (.ex (a76,true)) else some (.nx ()) else some (.nx ())
def f2s (d_:d9) (a_:l5) (jA:Int) (p_:Int) (t_:Int):Option (Int×Bool) :=
 (d4y a_ jA t_).bind fun y47=>(a10 (f6p d_ a_ p_ t_) y47 0 ()).bind fun o=>o.elim (fun x101=>some (0,false)) (fun r102=>some r102)
def g5j:List (Nat×RN):=[(5,⟨[.gc [3,4,5,6,13,15,19,20,21,35,38,39,40,41,42,43,44,45,46,47]],[],[.v 3 4]⟩),(6,⟨[.gc [13]],[],[]⟩)]
@[irreducible] def e6z:MC:=rdc (cK Tryz.prog Tryz.f209 g5j [] 2)
instance:LI e6z 21 20 [3,4,5,6,19,20] [6,5] (fun y:Unit=>[]) (fun y=>[]) []:=⟨⟩
instance h1w {d_:d9} {a_:l5} {jA p_ t_:Int}:WJ (f2s d_ a_ jA p_ t_) 209 [d9.v d_,l5.v a_,.int .i64 jA,.int .i64 p_,.int .i64 t_] fun z=>.tup [.int .i64 z.1,.bool z.2]:=wX Tryz.func209 g5j [(2,e6z)] (h:=fun _ _ h hQ M=>by unfold f2s at h;exact tX)
@[go_sem] def g2d (d_:d9) (a_:l5) (jA:Int) (p_:Int) (k35:Int) (a36:Int) (x34:Unit):Option (Fl Unit (Int×Bool)) :=
 (f2s d_ a_ jA p_ a36).bind fun y44=>bif y44.2 then some (.ex (a36,true)) else some (.nx ())
def f2r (d_:d9) (a_:l5) (jA:Int) (p_:Int):Option (Int×Bool) :=
 (f4g d_ a_).bind fun y23=>(a10 (g2d d_ a_ jA p_) y23 0 ()).bind fun o=>o.elim (fun x45=>some (0,false)) (fun r46=>some r46)
def g5i:List (Nat×RN):=[(6,⟨[.gc [11]],[],[]⟩)]
@[irreducible] def e5f:MC:=rdc (cK Tryz.prog Tryz.f157 g5i [] 2)
instance:LI e5f 18 17 [2,3,4,5,16,17] [5,4] (fun y:Unit=>[]) (fun y=>[]) []:=⟨⟩
instance h1u {d_:d9} {a_:l5} {jA p_:Int}:WJ (f2r d_ a_ jA p_) 157 [d9.v d_,l5.v a_,.int .i64 jA,.int .i64 p_] fun z=>.tup [.int .i64 z.1,.bool z.2]:=wX Tryz.func157 g5i [(2,e5f)] (h:=fun _ _ h hQ M=>by unfold f2r at h;exact tX)
@[go_sem] def g2c (d_:d9) (a_:l5) (jA:Int) (x26:Int×(List a00)):Option (Fl (Int×(List a00)) (List a00)) :=
 bif decide (x26.1<(d_.Kinds.length:Int)) then jn (α:=List a00) ((f2r d_ a_ jA x26.1).bind fun y34=>bif y34.2 then chk (room (x26.2.length+[(a00.mk x26.1 y34.1)].length) 16) (some (x26.2++[(a00.mk x26.1 y34.1)])) else some x26.2) fun j32=>chk (a0p (x26.1+1)) (some (.nx ((x26.1+1),j32))) else some (.ex x26.2)
def F_a (d_:d9) (a_:l5) (jA:Int):Option ((List a00)×Int) := (d4t d_ a_ jA).bind fun y4=>bif (!decide (y4=0)) then some ([],y4) else (loop (g2c d_ a_ jA) ((-1),[])).bind fun r35=>some (r35,0)
def a_a:List (Nat×RN):=[(3,⟨[.gc [8]],[],[]⟩),(4,⟨[],[.k 0 1],[]⟩),(10,⟨[.gc [2,3,4,9,10,11]],[],[]⟩)]
@[irreducible] def d78:MC:=rdc (cK Tryz.prog Tryz.f107 a_a [] 10000007)
@[irreducible] def e5e:MC:=rdc (cK Tryz.prog Tryz.f107 a_a [(10000007,d78)] 6)
instance:LI d78 0 0 [2,3,4,10] [4,3] (fun y:List a00=>[(9,.osl 2009 2 0 y.length)]) (fun y=>[.o 2009 (.arr 2 (y.map a00.v))]) [.gc [2,3,4,9,10],.acc 9 2009 2]:=⟨⟩
instance:LI e5e 0 0 [2,3,4] [4,3] (fun y:Int×(List a00)=>[(9,.osl 2009 2 0 y.2.length),(10,.int .i64 y.1)]) (fun y=>[.o 2009 (.arr 2 (y.2.map a00.v))]) [.gc [2,3,4,9,10],.acc 9 2009 2]:=⟨⟩
instance h58 {d_:d9} {a_:l5} {jA:Int}:WJ (F_a d_ a_ jA) 107 [d9.v d_,l5.v a_,.int .i64 jA] fun z=>.tup [.sl (z.1.map a00.v),.int .i64 z.2]:=wX Tryz.func107 a_a [(10000007,d78),(6,e5e)] [.fz 6] (h:=fun _ _ h hQ M=>by unfold F_a at h;exact tX)
@[go_sem] def f2g (k32:Int) (a33:a00) (x31:l6):Option l6 :=
 jn (α:=l6) (bif decide (a33.Principal=(-1)) then some (l6.mk x31.Fingerprint x31.Spots true x31.Readers x31.Since x31.Severity x31.Rotated x31.Dead) else chk (a0p (x31.Readers+1)) (some (l6.mk x31.Fingerprint x31.Spots x31.Public (x31.Readers+1) x31.Since x31.Severity x31.Rotated x31.Dead))) fun j37=>bif decide (j37.Since=(-1)) then some (l6.mk j37.Fingerprint j37.Spots j37.Public j37.Readers a33.Time j37.Severity j37.Rotated j37.Dead) else bif decide (a33.Time<j37.Since) then some (l6.mk j37.Fingerprint j37.Spots j37.Public j37.Readers a33.Time j37.Severity j37.Rotated j37.Dead) else some j37
def f7n (m_:l6) (d_:d9) (a_:l5) (jA:Int):Option (Int×l6) :=
 (F_a d_ a_ jA).bind fun y2=>bif (!decide (y2.2=0)) then some (y2.2,m_) else (a0d f2g y2.1 0 (l6.mk m_.Fingerprint m_.Spots m_.Public m_.Readers (-1) m_.Severity m_.Rotated m_.Dead)).bind fun x38=>some (0,x38)
def g0q:List (Nat×RN):=[(4,⟨[.gc [0,9,51,52,53,54,55,56,57]],[],[]⟩)]
@[irreducible] def d77:MC:=rdc (cK Tryz.prog Tryz.f68 g0q [] 10000011)
@[irreducible] def e7f:MC:=rdc (cK Tryz.prog Tryz.f68 g0q [(10000011,d77)] 6)
instance:LI d77 0 0 [0,12,26,27,28] [12] (fun y:l6=>[]) (fun y=>[.o 1000 (.cells [.int .u64 y.Fingerprint,.int .i64 y.Spots,.bool y.Public,.int .i64 y.Readers,.int .i64 y.Since,.int .i64 y.Severity.Level,.int .i64 y.Severity.Worth,.int .i64 y.Severity.Audience,.int .i64 y.Severity.Score,.bool y.Rotated,.bool y.Dead])]) []:=⟨⟩
instance:LI e7f 28 27 [0,26,27] [] (fun y:l6=>[]) (fun y=>[.o 1000 (.cells [.int .u64 y.Fingerprint,.int .i64 y.Spots,.bool y.Public,.int .i64 y.Readers,.int .i64 y.Since,.int .i64 y.Severity.Level,.int .i64 y.Severity.Worth,.int .i64 y.Severity.Audience,.int .i64 y.Severity.Score,.bool y.Rotated,.bool y.Dead])]) []:=⟨⟩
instance h1t {m_:l6} {d_:d9} {a_:l5} {jA:Int}:WI (f7n m_ d_ a_ jA) Tryz.prog 68 [.ptr 1000 0,d9.v d_,l5.v a_,.int .i64 jA] [(1000,.cells [.int .u64 m_.Fingerprint,.int .i64 m_.Spots,.bool m_.Public,.int .i64 m_.Readers,.int .i64 m_.Since,.int .i64 m_.Severity.Level,.int .i64 m_.Severity.Worth,.int .i64 m_.Severity.Audience,.int .i64 m_.Severity.Score,.bool m_.Rotated,.bool m_.Dead])] (fun z=>.int .i64 z.1) (fun z=>[(1000,.cells [.int .u64 z.2.Fingerprint,.int .i64 z.2.Spots,.bool z.2.Public,.int .i64 z.2.Readers,.int .i64 z.2.Since,.int .i64 z.2.Severity.Level,.int .i64 z.2.Severity.Worth,.int .i64 z.2.Severity.Audience,.int .i64 z.2.Severity.Score,.bool z.2.Rotated,.bool z.2.Dead])]):=wX Tryz.func68 g0q [(10000011,d77),(6,e7f)] [] [1000] (h:=fun _ _ h hQ M=>by unfold f7n at h;exact tX)
def f5r (c_:u7):Option Bool :=
 grp ((decide (c_.Pool<0)||decide (7<c_.Pool))) fun b2=>some b2
instance g8g {c_:u7}:WJ (f5r c_) 178 [u7.v c_] .bool:=wX Tryz.func178 [(1,⟨[],[],[.v 4 7]⟩)] (h:=fun _ _ h hQ M=>by unfold f5r at h;exact tX)
@[go_sem] def g2b (k31:Int) (a32:u7) (x30:Unit):Option (Fl Unit Int) :=
 (f5r a32).bind fun y40=>bif y40 then some (.ex k31) else some (.nx ())
def f5q (s_:List u7):Option Int :=
 (a10 g2b s_ 0 ()).bind fun o=>o.elim (fun x41=>some (-1)) (fun r42=>some r42)
@[irreducible] def e5d:MC:=rdc (cK Tryz.prog Tryz.f218 [] [] 2)
instance:LI e5d 8 7 [0,1,7] [] (fun y:Unit=>[]) (fun y=>[]) []:=⟨⟩
instance g8f {s_:List u7}:WJ (f5q s_) 218 [.sl (s_.map u7.v),.fn (.func 178) []] (.int .i64):=wX Tryz.func218 [] [(2,e5d)] (h:=fun _ _ h hQ M=>by unfold f5q at h;exact tX)
def f1i (s_:List u7):Option Bool :=
 (f5q s_).bind fun y2=>some (decide (0≤y2))
instance g9c {s_:List u7}:WJ (f1i s_) 179 [.sl (s_.map u7.v),.fn (.func 178) []] .bool:=wX Tryz.func179 (h:=fun _ _ h hQ M=>by unfold f1i at h;exact tX)
def e1g (f_:a01):Option Int :=
 grp (((!decide (f_.Slots=1))&&(!decide (f_.Slots=2)))) fun b13=>grp ((b13||decide ((f_.Consumers.length:Int)<1))) fun b14=>grp ((b14||decide (8<(f_.Consumers.length:Int)))) fun b15=>bif b15 then some 36 else (f1i f_.Consumers).bind fun y16=>bif y16 then some 36 else some 0
instance h03 {f_:a01}:WJ (e1g f_) 116 [a01.v f_] (.int .i64):=wX Tryz.func116 [(2,⟨[],[],[.v 4 7,.v 9 13,.v 15 19]⟩)] (h:=fun _ _ h hQ M=>by unfold e1g at h;exact tX)
def d4s (x_:Int) (gG:Int) (jK:Bool):Option Bool :=
 grp ((decide (0<x_)&&decide (x_≤3))) fun b4=>jn (α:=Bool) (bif b4 then some (decide ((bits .andNot .i64 x_ gG)=0)) else some false) fun j5=>grp ((j5&&(jK||(!decide (x_=3))))) fun b6=>some b6
instance e8w {m:List MOp}:GI (gjt 1170107 m) [0,2,6] [] (fun y:Bool=>[(18,.bool y)]) (fun y=>[]):=⟨⟩
instance h1s {x_ gG:Int} {jK:Bool}:WJ (d4s x_ gG jK) 117 [.int .i64 x_,.int .i64 gG,.bool jK] .bool:=wX Tryz.func117 [(1,⟨[],[],[.v 3 5,.w 7 11 1170107,.v 13 18]⟩)] (h:=fun _ _ h hQ M=>by unfold d4s at h;exact tX)
def f1h (c_:u7) (u_:a0r) (gG:Int):Option Bool :=
 (d4s u_.Stored gG c_.Dual).bind fun y4=>bif (!y4) then some false else bif (!u_.Up) then some (decide (u_.Used=0)) else (d4s u_.Used gG c_.Dual).bind fun y7=>grp ((y7&&((!c_.Live)||decide (u_.Used=u_.Stored)))) fun b8=>some b8
instance g9b {c_:u7} {u_:a0r} {gG:Int}:WJ (f1h c_ u_ gG) 118 [u7.v c_,a0r.v u_,.int .i64 gG] .bool:=wX Tryz.func118 [(3,⟨[.gc [2,3,4,27,28,29,30,31,32,33,34,35,36]],[],[]⟩),(5,⟨[],[],[.v 7 17]⟩)] (h:=fun _ _ h hQ M=>by unfold f1h at h;exact tX)
@[go_sem] def g3n (f_:a01) (s_:o5) (k52:Int) (a53:a0r) (x51:Unit):Option (Fl Unit Bool) :=
 chk (inb k52 f_.Consumers.length) ((f1h (f_.Consumers.getD (k52).toNat default) a53 s_.Known).bind fun y61=>bif (!y61) then some (.ex false) else some (.nx ()))
def F_f (f_:a01) (s_:o5):Option Bool := jn (α:=Fl Unit Bool) ((e1g f_).bind fun y17=>grp (((!decide (y17=0))||((!decide (s_.Known=1))&&(!decide (s_.Known=3))))) fun b18=>bif b18 then grp (true) fun b19=>bif b19 then some (.ex false) else some (.nx ()) else (d4s s_.Valid s_.Known (decide (f_.Slots=2))).bind fun y20=>grp (((!y20)||(!decide ((s_.Units.length:Int)=(f_.Consumers.length:Int))))) fun b21=>bif b21 then some (.ex false) else some (.nx ())) fun o=>o.elim (fun j11=>(a10 (g3n f_ s_) s_.Units 0 ()).bind fun o=>o.elim (fun x62=>some true) (fun r63=>some r63)) (fun r64=>some r64)
def a_f:List (Nat×RN):=[(1,⟨[],[],[.v 4 12,.v 25 32]⟩)]
@[irreducible] def d7m:MC:=rdc (cK Tryz.prog Tryz.f70 a_f [] 4)
@[irreducible] def e4h:MC:=rdc (cK Tryz.prog Tryz.f70 a_f [(4,d7m)] 10000003)
instance:LI d7m 43 42 [2,3,41,42] [3,2] (fun y:Unit=>[]) (fun y=>[]) []:=⟨⟩
instance:LI e4h 0 0 [2,3] [3,2] (fun y:Unit=>[]) (fun y=>[]) []:=⟨⟩
instance h52 {f_:a01} {s_:o5}:WJ (F_f f_ s_) 70 [a01.v f_,o5.v s_] .bool:=wX Tryz.func70 a_f [(4,d7m),(10000003,e4h)] (h:=fun _ _ h hQ M=>by unfold F_f at h;exact tX)
def e07 (n_:Int) (jD:Int) (kC:Int):Option Bool :=
 grp ((decide (jD≤n_)&&decide (n_≤kC))) fun b2=>some b2
instance h0n {n_ jD kC:Int}:WJ (e07 n_ jD kC) 120 [.int .i64 n_,.int .i64 jD,.int .i64 kC] .bool:=wX Tryz.func120 [(1,⟨[],[],[.v 4 7]⟩)] (h:=fun _ _ h hQ M=>by unfold e07 at h;exact tX)
def f1g (gH:Int):Option Bool :=
 (e07 gH 0 3).bind fun y2=>some (!y2)
instance g9a {gH:Int}:WJ (f1g gH) 121 [.int .i64 gH] .bool:=wX Tryz.func121 (h:=fun _ _ h hQ M=>by unfold f1g at h;exact tX)
@[go_sem] def f6o (k31:Int) (a32:Int) (x30:Unit):Option (Fl Unit Int) :=
 (f1g a32).bind fun y40=>bif y40 then some (.ex k31) else some (.nx ())
def f1f (s_:List Int):Option Int :=
 (a10 f6o s_ 0 ()).bind fun o=>o.elim (fun x41=>some (-1)) (fun r42=>some r42)
@[irreducible] def e6y:MC:=rdc (cK Tryz.prog Tryz.f175 [] [] 2)
instance:LI e6y 8 7 [0,1,7] [] (fun y:Unit=>[]) (fun y=>[]) []:=⟨⟩
instance g99 {s_:List Int}:WJ (f1f s_) 175 [.sl (s_.map (V.int .i64)),.fn (.func 121) []] (.int .i64):=wX Tryz.func175 [] [(2,e6y)] (h:=fun _ _ h hQ M=>by unfold f1f at h;exact tX)
def d4r (s_:List Int):Option Bool :=
 (f1f s_).bind fun y2=>some (decide (0≤y2))
instance h1r {s_:List Int}:WJ (d4r s_) 112 [.sl (s_.map (V.int .i64)),.fn (.func 121) []] .bool:=wX Tryz.func112 (h:=fun _ _ h hQ M=>by unfold d4r at h;exact tX)
def d4q (g_:Int) (p_:l9):Option Bool :=
 chk (a0p ((p_.Sets.length:Int) - 1)) ((e07 g_ 0 ((p_.Sets.length:Int) - 1)).bind fun y2=>some (!y2))
instance h1q {g_:Int} {p_:l9}:WI (d4q g_ p_) Tryz.prog 119 [.int .i64 g_,.ptr 1000 0] [(1000,.cells [.bool p_.Fence,.sl (p_.Sets.map (V.int .i64)),.sl (p_.Replicas.map p9.v),.sl (p_.Snapshots.map (V.int .i64))])] (fun z=>.bool z) (fun z=>[(1000,.cells [.bool p_.Fence,.sl (p_.Sets.map (V.int .i64)),.sl (p_.Replicas.map p9.v),.sl (p_.Snapshots.map (V.int .i64))])]):=wX Tryz.func119 [] [] [] [1000] (h:=fun _ _ h hQ M=>by unfold d4q at h;exact tX)
@[go_sem] def f6n (qA:l9) (k31:Int) (a32:Int) (x30:Unit):Option (Fl Unit Int) :=
 (d4q a32 qA).bind fun y40=>bif y40 then some (.ex k31) else some (.nx ())
def f2q (s_:List Int) (qA:l9):Option Int :=
 (a10 (f6n qA) s_ 0 ()).bind fun o=>o.elim (fun x41=>some (-1)) (fun r42=>some r42)
def g5h:List (Nat×RN):=[(4,⟨[],[.c 5 0 [1000] []],[]⟩)]
@[irreducible] def e6x:MC:=rdc (cK Tryz.prog Tryz.f175 g5h [] 2)
instance:LI e6x 8 7 [0,1,7] [1000] (fun y:Unit=>[]) (fun y=>[]) []:=⟨⟩
instance h1p {s_:List Int} {qA:l9}:WI (f2q s_ qA) Tryz.prog 175 [.sl (s_.map (V.int .i64)),.fn (.func 119) [.ptr 1000 0]] [(1000,.cells [.bool qA.Fence,.sl (qA.Sets.map (V.int .i64)),.sl (qA.Replicas.map p9.v),.sl (qA.Snapshots.map (V.int .i64))])] (fun z=>.int .i64 z) (fun z=>[(1000,.cells [.bool qA.Fence,.sl (qA.Sets.map (V.int .i64)),.sl (qA.Replicas.map p9.v),.sl (qA.Snapshots.map (V.int .i64))])]):=wX Tryz.func175 g5h [(2,e6x)] [] [1000] (h:=fun _ _ h hQ M=>by unfold f2q at h;exact tX)
def d4p (s_:List Int) (qA:l9):Option Bool :=
 (f2q s_ qA).bind fun y2=>some (decide (0≤y2))
instance h1o {s_:List Int} {qA:l9}:WI (d4p s_ qA) Tryz.prog 112 [.sl (s_.map (V.int .i64)),.fn (.func 119) [.ptr 1000 0]] [(1000,.cells [.bool qA.Fence,.sl (qA.Sets.map (V.int .i64)),.sl (qA.Replicas.map p9.v),.sl (qA.Snapshots.map (V.int .i64))])] (fun z=>.bool z) (fun z=>[(1000,.cells [.bool qA.Fence,.sl (qA.Sets.map (V.int .i64)),.sl (qA.Replicas.map p9.v),.sl (qA.Snapshots.map (V.int .i64))])]):=wX Tryz.func112 [(1,⟨[],[.c 2 0 [1000] []],[]⟩)] [] [] [1000] (h:=fun _ _ h hQ M=>by unfold d4p at h;exact tX)
def f1e (r_:p9) (kJ:l9):Option Bool :=
 (d4q r_.Generation kJ).bind fun y2=>some y2
instance g98 {r_:p9} {kJ:l9}:WI (f1e r_ kJ) Tryz.prog 123 [p9.v r_,.ptr 1000 0] [(1000,.cells [.fn (.func 119) [.ptr 1001 0]]),(1001,.cells [.bool kJ.Fence,.sl (kJ.Sets.map (V.int .i64)),.sl (kJ.Replicas.map p9.v),.sl (kJ.Snapshots.map (V.int .i64))])] (fun z=>.bool z) (fun z=>[(1000,.cells [.fn (.func 119) [.ptr 1001 0]]),(1001,.cells [.bool kJ.Fence,.sl (kJ.Sets.map (V.int .i64)),.sl (kJ.Replicas.map p9.v),.sl (kJ.Snapshots.map (V.int .i64))])]):=wX Tryz.func123 [(1,⟨[],[.c 3 0 [1001] []],[]⟩)] [] [] [1000,1001] (h:=fun _ _ h hQ M=>by have:SwA [(1000,1001)]:=⟨⟩;unfold f1e at h;exact tX)
@[go_sem] def f6m (tC:l9) (k31:Int) (a32:p9) (x30:Unit):Option (Fl Unit Int) :=
 (f1e a32 tC).bind fun y40=>bif y40 then some (.ex k31) else some (.nx ())
def f2p (s_:List p9) (tC:l9):Option Int :=
 (a10 (f6m tC) s_ 0 ()).bind fun o=>o.elim (fun x41=>some (-1)) (fun r42=>some r42)
def g5g:List (Nat×RN):=[(4,⟨[],[.c 5 0 [1000,1001] []],[]⟩)]
@[irreducible] def e6w:MC:=rdc (cK Tryz.prog Tryz.f180 g5g [] 2)
instance:LI e6w 8 7 [0,1,7] [1000,1001] (fun y:Unit=>[]) (fun y=>[]) []:=⟨⟩
instance h1n {s_:List p9} {tC:l9}:WI (f2p s_ tC) Tryz.prog 180 [.sl (s_.map p9.v),.fn (.func 123) [.ptr 1000 0]] [(1000,.cells [.fn (.func 119) [.ptr 1001 0]]),(1001,.cells [.bool tC.Fence,.sl (tC.Sets.map (V.int .i64)),.sl (tC.Replicas.map p9.v),.sl (tC.Snapshots.map (V.int .i64))])] (fun z=>.int .i64 z) (fun z=>[(1000,.cells [.fn (.func 119) [.ptr 1001 0]]),(1001,.cells [.bool tC.Fence,.sl (tC.Sets.map (V.int .i64)),.sl (tC.Replicas.map p9.v),.sl (tC.Snapshots.map (V.int .i64))])]):=wX Tryz.func180 g5g [(2,e6w)] [] [1000,1001] (h:=fun _ _ h hQ M=>by unfold f2p at h;exact tX)
def d4o (s_:List p9) (tC:l9):Option Bool :=
 (f2p s_ tC).bind fun y2=>some (decide (0≤y2))
instance h1m {s_:List p9} {tC:l9}:WI (d4o s_ tC) Tryz.prog 122 [.sl (s_.map p9.v),.fn (.func 123) [.ptr 1000 0]] [(1000,.cells [.fn (.func 119) [.ptr 1001 0]]),(1001,.cells [.bool tC.Fence,.sl (tC.Sets.map (V.int .i64)),.sl (tC.Replicas.map p9.v),.sl (tC.Snapshots.map (V.int .i64))])] (fun z=>.bool z) (fun z=>[(1000,.cells [.fn (.func 119) [.ptr 1001 0]]),(1001,.cells [.bool tC.Fence,.sl (tC.Sets.map (V.int .i64)),.sl (tC.Replicas.map p9.v),.sl (tC.Snapshots.map (V.int .i64))])]):=wX Tryz.func122 [(1,⟨[],[.c 2 0 [1000,1001] []],[]⟩)] [] [] [1000,1001] (h:=fun _ _ h hQ M=>by unfold d4o at h;exact tX)
def d4n (c_:l9):Option Int :=
 (e07 (c_.Replicas.length:Int) 1 5).bind fun y25=>bif (!y25) then grp (true) fun b26=>bif b26 then some 39 else (d4r c_.Sets).bind fun y29=>bif y29 then some 39 else (d4p c_.Snapshots c_).bind fun y30=>bif y30 then some 39 else (d4o c_.Replicas c_).bind fun y32=>bif y32 then some 39 else some 0 else (e07 (c_.Sets.length:Int) 1 121).bind fun y33=>grp (((!y33)||decide (120<(c_.Snapshots.length:Int)))) fun b34=>bif b34 then some 39 else (d4r c_.Sets).bind fun y37=>bif y37 then some 39 else (d4p c_.Snapshots c_).bind fun y38=>bif y38 then some 39 else (d4o c_.Replicas c_).bind fun y40=>bif y40 then some 39 else some 0
instance h1l {c_:l9}:WJ (d4n c_) 71 [l9.v c_] (.int .i64):=wX Tryz.func71 [(2,⟨[],[],[.v 13 17]⟩),(4,⟨[.gc [1,3,29,30,31,32]],[.c 7 0 [1] []],[]⟩),(6,⟨[.gc [1,3]],[.c 3 0 [3,1] []],[]⟩)] (h:=fun _ _ h hQ M=>by have:SwA [(1000,1)]:=⟨⟩;have:SwB [(1000,3),(1001,1)]:=⟨⟩;unfold d4n at h;exact tX)
def g1s (u_:a0r) (p_:a0r):Option Bool :=
 some (!((u_.Up==p_.Up)&&(decide (u_.Stored=p_.Stored)&&decide (u_.Used=p_.Used))))
instance g84 {u_ p_:a0r}:WI (g1s u_ p_) Tryz.prog 125 [a0r.v u_,.ptr 1000 0] [(1000,.cells [.bool p_.Up,.int .i64 p_.Stored,.int .i64 p_.Used])] (fun z=>.bool z) (fun z=>[(1000,.cells [.bool p_.Up,.int .i64 p_.Stored,.int .i64 p_.Used])]):=wX Tryz.func125 [] [] [] [1000] (h:=fun _ _ h hQ M=>by unfold g1s at h;exact tX)
@[go_sem] def g6v (qA:a0r) (k31:Int) (a32:a0r) (x30:Unit):Option (Fl Unit Int) :=
 (g1s a32 qA).bind fun y40=>bif y40 then some (.ex k31) else some (.nx ())
def f7h (s_:List a0r) (qA:a0r):Option Int :=
 (a10 (g6v qA) s_ 0 ()).bind fun o=>o.elim (fun x41=>some (-1)) (fun r42=>some r42)
def g56:List (Nat×RN):=[(4,⟨[],[.c 5 0 [1000] []],[]⟩)]
@[irreducible] def e4s:MC:=rdc (cK Tryz.prog Tryz.f181 g56 [] 2)
instance:LI e4s 8 7 [0,1,7] [1000] (fun y:Unit=>[]) (fun y=>[]) []:=⟨⟩
instance h0m {s_:List a0r} {qA:a0r}:WI (f7h s_ qA) Tryz.prog 181 [.sl (s_.map a0r.v),.fn (.func 125) [.ptr 1000 0]] [(1000,.cells [.bool qA.Up,.int .i64 qA.Stored,.int .i64 qA.Used])] (fun z=>.int .i64 z) (fun z=>[(1000,.cells [.bool qA.Up,.int .i64 qA.Stored,.int .i64 qA.Used])]):=wX Tryz.func181 g56 [(2,e4s)] [] [1000] (h:=fun _ _ h hQ M=>by unfold f7h at h;exact tX)
def f1d (s_:List a0r) (qA:a0r):Option Bool :=
 (f7h s_ qA).bind fun y2=>some (decide (0≤y2))
instance g97 {s_:List a0r} {qA:a0r}:WI (f1d s_ qA) Tryz.prog 124 [.sl (s_.map a0r.v),.fn (.func 125) [.ptr 1000 0]] [(1000,.cells [.bool qA.Up,.int .i64 qA.Stored,.int .i64 qA.Used])] (fun z=>.bool z) (fun z=>[(1000,.cells [.bool qA.Up,.int .i64 qA.Stored,.int .i64 qA.Used])]):=wX Tryz.func124 [(1,⟨[],[.c 2 0 [1000] []],[]⟩)] [] [] [1000] (h:=fun _ _ h hQ M=>by unfold f1d at h;exact tX)
def f1c (f_:a01) (s_:o5):Option Bool :=
 (F_f f_ s_).bind fun y5=>grp ((y5&&decide (s_.Valid=2))) fun b6=>jn (α:=Bool) (bif b6 then (f1d s_.Units (a0r.mk true 2 2)).bind fun y8=>some (!y8) else some false) fun j9=>some j9
instance f4z {m:List MOp}:GI (gjt 720209 m) [4] [] (fun y:Bool=>[(21,.bool y)]) (fun y=>[]):=⟨⟩
instance g96 {f_:a01} {s_:o5}:WJ (f1c f_ s_) 72 [a01.v f_,o5.v s_] .bool:=wX Tryz.func72 [(2,⟨[],[.c 12 0 [5] []],[.v 4 7,.w 9 14 720209]⟩)] (h:=fun _ _ h hQ M=>by have:SwA [(1000,5)]:=⟨⟩;unfold f1c at h;exact tX)
def f5p (gD:Int):Option Bool :=
 grp ((decide (gD=1)||decide (gD=2))) fun b2=>some b2
instance g8e {gD:Int}:WJ (f5p gD) 126 [.int .i64 gD] .bool:=wX Tryz.func126 [(1,⟨[],[],[.v 3 5]⟩)] (h:=fun _ _ h hQ M=>by unfold f5p at h;exact tX)
def e1f (c_:l9) (jG:Int) (gD:Int):Option Bool :=
 chk (inb jG c_.Sets.length) (some (!decide ((bits .and .i64 (c_.Sets.getD (jG).toNat default) gD)=0)))
instance g9z {c_:l9} {jG gD:Int}:WJ (e1f c_ jG gD) 127 [l9.v c_,.int .i64 jG,.int .i64 gD] .bool:=wX Tryz.func127 (h:=fun _ _ h hQ M=>by unfold e1f at h;exact tX)
def f5o (c_:l9) (r_:p9) (gD:Int):Option Bool :=
 jn (α:=Bool) (bif r_.Serving then (e1f c_ r_.Generation gD).bind fun y4=>some y4 else some false) fun j5=>some j5
instance e8m {m:List MOp}:GI (gjt 1830103 m) [6] [] (fun y:Bool=>[(15,.bool y)]) (fun y=>[]):=⟨⟩
instance g8d {c_:l9} {r_:p9} {gD:Int}:WJ (f5o c_ r_ gD) 183 [l9.v c_,p9.v r_,.int .i64 gD] .bool:=wX Tryz.func183 [(1,⟨[],[],[.w 3 8 1830103]⟩)] (h:=fun _ _ h hQ M=>by unfold f5o at h;exact tX)
def f5n (r_:p9) (p_:l9) (p__:Int):Option Bool :=
 (f5o p_ r_ p__).bind fun y2=>some y2
instance g8c {r_:p9} {p_:l9} {p__:Int}:WI (f5n r_ p_ p__) Tryz.prog 182 [p9.v r_,.ptr 1000 0,.ptr 1001 0] [(1000,.cells [.bool p_.Fence,.sl (p_.Sets.map (V.int .i64)),.sl (p_.Replicas.map p9.v),.sl (p_.Snapshots.map (V.int .i64))]),(1001,.cells [.int .i64 p__])] (fun z=>.bool z) (fun z=>[(1000,.cells [.bool p_.Fence,.sl (p_.Sets.map (V.int .i64)),.sl (p_.Replicas.map p9.v),.sl (p_.Snapshots.map (V.int .i64))]),(1001,.cells [.int .i64 p__])]):=wX Tryz.func182 [] [] [] [1000,1001] (h:=fun _ _ h hQ M=>by unfold f5n at h;exact tX)
@[go_sem] def g2a (qA:l9) (qI:Int) (k31:Int) (a32:p9) (x30:Unit):Option (Fl Unit Int) :=
 (f5n a32 qA qI).bind fun y40=>bif y40 then some (.ex k31) else some (.nx ())
def f7g (s_:List p9) (qA:l9) (qI:Int):Option Int :=
 (a10 (g2a qA qI) s_ 0 ()).bind fun o=>o.elim (fun x41=>some (-1)) (fun r42=>some r42)
def g55:List (Nat×RN):=[(4,⟨[],[.c 5 0 [1000,1001] []],[]⟩)]
@[irreducible] def e5c:MC:=rdc (cK Tryz.prog Tryz.f180 g55 [] 2)
instance:LI e5c 8 7 [0,1,7] [1001,1000] (fun y:Unit=>[]) (fun y=>[]) []:=⟨⟩
instance h0j {s_:List p9} {qA:l9} {qI:Int}:WI (f7g s_ qA qI) Tryz.prog 180 [.sl (s_.map p9.v),.fn (.func 182) [.ptr 1000 0,.ptr 1001 0]] [(1000,.cells [.bool qA.Fence,.sl (qA.Sets.map (V.int .i64)),.sl (qA.Replicas.map p9.v),.sl (qA.Snapshots.map (V.int .i64))]),(1001,.cells [.int .i64 qI])] (fun z=>.int .i64 z) (fun z=>[(1000,.cells [.bool qA.Fence,.sl (qA.Sets.map (V.int .i64)),.sl (qA.Replicas.map p9.v),.sl (qA.Snapshots.map (V.int .i64))]),(1001,.cells [.int .i64 qI])]):=wX Tryz.func180 g55 [(2,e5c)] [] [1000,1001] (h:=fun _ _ h hQ M=>by unfold f7g at h;exact tX)
def f5m (s_:List p9) (qA:l9) (qI:Int):Option Bool :=
 (f7g s_ qA qI).bind fun y2=>some (decide (0≤y2))
instance g8b {s_:List p9} {qA:l9} {qI:Int}:WI (f5m s_ qA qI) Tryz.prog 122 [.sl (s_.map p9.v),.fn (.func 182) [.ptr 1000 0,.ptr 1001 0]] [(1000,.cells [.bool qA.Fence,.sl (qA.Sets.map (V.int .i64)),.sl (qA.Replicas.map p9.v),.sl (qA.Snapshots.map (V.int .i64))]),(1001,.cells [.int .i64 qI])] (fun z=>.bool z) (fun z=>[(1000,.cells [.bool qA.Fence,.sl (qA.Sets.map (V.int .i64)),.sl (qA.Replicas.map p9.v),.sl (qA.Snapshots.map (V.int .i64))]),(1001,.cells [.int .i64 qI])]):=wX Tryz.func122 [(1,⟨[],[.c 2 0 [1000,1001] []],[]⟩)] [] [] [1000,1001] (h:=fun _ _ h hQ M=>by unfold f5m at h;exact tX)
def f1b (c_:l9) (gD:Int):Option Bool :=
 (f5m c_.Replicas c_ gD).bind fun y2=>some y2
instance g95 {c_:l9} {gD:Int}:WJ (f1b c_ gD) 128 [l9.v c_,.int .i64 gD] .bool:=wX Tryz.func128 [(1,⟨[],[.c 3 0 [2,3] []],[]⟩)] (h:=fun _ _ h hQ M=>by have:SwA [(1000,2),(1001,3)]:=⟨⟩;unfold f1b at h;exact tX)
def f0z (c_:l9) (gD:Int):Option Bool :=
 (d4n c_).bind fun y8=>jn (α:=Bool) (bif decide (y8=0) then (f5p gD).bind fun y10=>some y10 else some false) fun j11=>jn (α:=Bool) (bif j11 then chk (a0p ((c_.Sets.length:Int) - 1)) ((e1f c_ ((c_.Sets.length:Int) - 1) gD).bind fun y13=>some (!y13)) else some false) fun j14=>jn (α:=Bool) (bif j14 then (f1b c_ gD).bind fun y16=>some (!y16) else some false) fun j17=>some j17
instance f4w {m:List MOp}:GI (gjt 730118 m) [4] [] (fun y:Bool=>[(27,.bool y)]) (fun y=>[]):=⟨⟩
instance f4x {m:List MOp}:GI (gjt 730108 m) [1,2,4] [2] (fun y:Bool=>[(21,.bool y)]) (fun y=>[]):=⟨⟩
instance f4y {m:List MOp}:GI (gjt 730104 m) [1,2,4] [2] (fun y:Bool=>[(11,.bool y)]) (fun y=>[]):=⟨⟩
instance g94 {c_:l9} {gD:Int}:WJ (f0z c_ gD) 73 [l9.v c_,.int .i64 gD] .bool:=wX Tryz.func73 [(1,⟨[],[],[.w 4 6 730104,.w 8 16 730108,.w 18 22 730118]⟩)] (h:=fun _ _ h hQ M=>by unfold f0z at h;exact tX)
end
end Go.Ab