/- What the functions of this seat that lie on the laws' road compute (part LV), each for every input. By AI agents. -/
import Derived.Test.YtoojdaakeiadjaaGreatDoorProg
import Derived.KernelRfl
import Derived.Test.YtoojdaakeiadjaaGreatDoorAbFun
import Derived.Test.YtoojdaakeiadjaaGreatDoorLA
set_option linter.all false
set_option maxRecDepth 20000
set_option maxHeartbeats 2000000
namespace Go.Ab
open Go.Proofs
noncomputable section
structure a0k where
 Range:o9
 To:Int
instance:Inhabited a0k:=⟨⟨default,default⟩⟩
def a0k.v (x:a0k):V:=.agg [a0a x.Range.Low,a0a x.Range.High,.int .i64 x.To]
structure u6 where
 Edges:List (List a0k)
 Accepts:List Bool
instance:Inhabited u6:=⟨⟨default,default⟩⟩
def u6.v (x:u6):V:=.agg [.sl (x.Edges.map (slV a0k.v)),.sl (x.Accepts.map V.bool)]
theorem c7i:inb 0 256=true:=a18.2 (by decide)
attribute [go_sem] c7i
theorem c7h:inb 0 257=true:=a18.2 (by decide)
attribute [go_sem] c7h
theorem c0r:inb 256 257=true:=a18.2 (by decide)
attribute [go_sem] c0r
theorem e6u {n:Nat}:(inb 1 n=true)=(((1:Nat):Int)<(n:Int)):=propext (by rw [a18];omega)
attribute [go_sem] e6u
attribute [go_sem] a0k.v u6.v
def d3q:Nat→o7→Int→Option Int
 | 0,_,_=>none
 | n+1,n_,jE =>
 chk (a0c (jE+1)) ((loop (fun (x37:Int×Int)=>(grp ((decide (x37.2<(n_.Kids.length:Int))&&decide (x37.1≤200))) fun b47=>bif b47 then chk (inb x37.2 n_.Kids.length) ((d3q n (n_.Kids.getD (x37.2).toNat default) x37.1).bind fun y49=>chk (a0c (x37.2+1)) (some (.nx (y49,(x37.2+1))))) else some (.ex x37.1):Option (Fl (Int×Int) Int))) ((jE+1),0)).bind fun r50=>some r50)
def F_l (n_:o7) (jE:Int):Option Int:=lim fun n=>d3q n n_ jE
@[irreducible] def d6x:List MOp:=rdc (cG Tryz.prog Tryz.f149 [] 3 6 8)
def a_l:List (Nat×RN):=[(3,⟨[],[],[.u 6 8 d6x]⟩),(4,⟨[.gc [1,2,5,14,15]],[],[]⟩)]
@[irreducible] def d8g:MC:=rdc (cK Tryz.prog Tryz.f149 a_l [] 3)
def f8o:MC:=rdc (cT Tryz.prog Tryz.f149 a_l [(3,d8g)])
theorem g2u {n:Nat} (ih_ref05_count:∀{n_:o7} {jE:Int} {y:Int},d3q n n_ jE=some y→l9 Tryz.prog 149 [o7.v n_,.int .i64 jE] [] (fun r H=>r=.int .i64 y∧H=[])) (n_:o7) (jE:Int) {Q:Int→Prop} {Q':V→Heap→Prop} (h:Ok (d3q (n+1) n_ jE) Q) (hQ:∀z,Q z→Q' (.int .i64 z) []):l9 Tryz.prog 149 [o7.v n_,.int .i64 jE] [] Q':=by
 refine a0s f8o [] [] [.t 4] Tryz.func149 fun M=>?_
 simp only [d3q] at h
 unfold f8o
 replace h:=tY h
 refine tB ?_
 repeat' (first
 | (exact tZ)
 | ((first|refine a6y h ?_|refine a1i h ?_|refine fork h ?_ ?_|refine a1j h ?_ ?_)<;>clear h<;>intro hc h)
 | (obtain ⟨y,hy,h⟩:=h;have hw:=ih_ref05_count hy;replace hw:=tY hw;(first|refine M.sC hw ?_|refine M.sD hw ?_);clear hw hy;refine tB ?_)
 | (refine M.gv1 (ms:=d6x) 16 [14,15] h ?_ ?_<;>first
 | (clear h;intro K hK1;unfold d6x;refine tB ?_)
 | (clear h;intro b h;replace h:=tY h;refine tB ?_))
 | (refine M.wh1 (b:=d8g) [2] [2] (fun x=>[(1,.int .i64 x.1),(5,.int .i64 x.2)]) (fun x=>[]) [] h ?_ ?_<;>first
 | (clear h;intro x Qn K hK2 h;unfold d8g;replace h:=tY h;refine tB ?_)
  |(clear h;(try refine tB ?_);exact tU0;done))
 | (refine hK1 _ ?_;exact tU;done)
 | (refine hK2 _ ?_;(try refine tB ?_);refine ⟨_,h,?_⟩;exact tU0;done)
 | (refine a9i (fun hc=>?_) (fun hc=>?_))
 | (refine tE ?_;(first|rw [M.lok_compU]|rw [M.lokD_compU]);refine tB ?_)
 | (refine tA ?_)
 | fail)
theorem g0f:∀n,(∀{n_:o7} {jE:Int} {y:Int},d3q n n_ jE=some y→l9 Tryz.prog 149 [o7.v n_,.int .i64 jE] [] (fun r H=>r=.int .i64 y∧H=[]))
 | 0=>fun hy=>(by simp only [d3q] at hy;cases hy)
 | n+1=>by
  have ih_ref05_count:=@g0f n
  exact fun hy=>g2u ih_ref05_count _ _ (Q:=(·=_)) ⟨_,hy,rfl⟩ fun|_,rfl=>⟨rfl,rfl⟩
theorem W_l:∀{n_:o7} {jE:Int} {y:Int},F_l n_ jE=some y→l9 Tryz.prog 149 [o7.v n_,.int .i64 jE] [] (fun r H=>r=.int .i64 y∧H=[]):=fun hy=>by
 obtain ⟨n,hn⟩:=a0n hy
 exact (g0f n) hn
instance c9w {n_:o7} {jE:Int}:WI (F_l n_ jE) Tryz.prog 149 [o7.v n_,.int .i64 jE] [] (fun y=>.int .i64 y) (fun y=>[]):=⟨fun Q Q' h hQ=>by obtain ⟨y,hy,hq⟩:=h;exact (W_l hy).mono fun r H' e=>by rw [e.1,e.2];exact hQ y hq⟩
def e9q (n_:o7):Option Int :=
 (F_l n_ 0).bind fun y2=>some (min y2 201)
instance g3n {n_:o7}:WJ (e9q n_) 126 [o7.v n_] (.int .i64):=wX Tryz.func126 (h:=fun _ _ h hQ M=>by unfold e9q at h;exact tX)
def d3p:Nat→o7→Option Int
 | 0,_=>none
 | n+1,n_ =>
 (loop (fun (x17:Int×Int)=>(bif decide (x17.2<(n_.Kids.length:Int)) then chk (inb x17.2 n_.Kids.length) ((d3p n (n_.Kids.getD (x17.2).toNat default)).bind fun y21=>chk (a0c (x17.2+1)) (some (.nx ((max x17.1 y21),(x17.2+1))))) else some (.ex x17.1):Option (Fl (Int×Int) Int))) (0,0)).bind fun r22=>chk (a0c (r22+1)) (some (r22+1))
def F_m (n_:o7):Option Int:=lim fun n=>d3p n n_
def a_m:List (Nat×RN):=[(4,⟨[.gc [1,3,4]],[],[]⟩)]
@[irreducible] def d8f:MC:=rdc (cK Tryz.prog Tryz.f127 a_m [] 3)
def f8n:MC:=rdc (cT Tryz.prog Tryz.f127 a_m [(3,d8f)])
theorem g2t {n:Nat} (ih_ref05_depth:∀{n_:o7} {y:Int},d3p n n_=some y→l9 Tryz.prog 127 [o7.v n_] [] (fun r H=>r=.int .i64 y∧H=[])) (n_:o7) {Q:Int→Prop} {Q':V→Heap→Prop} (h:Ok (d3p (n+1) n_) Q) (hQ:∀z,Q z→Q' (.int .i64 z) []):l9 Tryz.prog 127 [o7.v n_] [] Q':=by
 refine a0s f8n [] [] [.t 2] Tryz.func127 fun M=>?_
 simp only [d3p] at h
 unfold f8n
 replace h:=tY h
 refine tB ?_
 repeat' (first
 | (exact tZ)
 | ((first|refine a6y h ?_|refine a1i h ?_|refine fork h ?_ ?_|refine a1j h ?_ ?_)<;>clear h<;>intro hc h)
 | (obtain ⟨y,hy,h⟩:=h;have hw:=ih_ref05_depth hy;replace hw:=tY hw;(first|refine M.sC hw ?_|refine M.sD hw ?_);clear hw hy;refine tB ?_)
 | (refine M.wh1 (b:=d8f) [1] [1] (fun x=>[(3,.int .i64 x.1),(4,.int .i64 x.2)]) (fun x=>[]) [] h ?_ ?_<;>first
 | (clear h;intro x Qn K hK1 h;unfold d8f;replace h:=tY h;refine tB ?_)
  |(clear h;(try refine tB ?_);exact tU0;done))
 | (refine hK1 _ ?_;(try refine tB ?_);refine ⟨_,h,?_⟩;exact tU0;done)
 | (refine tE ?_;(first|rw [M.lok_compU]|rw [M.lokD_compU]);refine tB ?_)
 | (refine tA ?_)
 | fail)
theorem g0e:∀n,(∀{n_:o7} {y:Int},d3p n n_=some y→l9 Tryz.prog 127 [o7.v n_] [] (fun r H=>r=.int .i64 y∧H=[]))
 | 0=>fun hy=>(by simp only [d3p] at hy;cases hy)
 | n+1=>by
  have ih_ref05_depth:=@g0e n
  exact fun hy=>g2t ih_ref05_depth _ (Q:=(·=_)) ⟨_,hy,rfl⟩ fun|_,rfl=>⟨rfl,rfl⟩
theorem W_m:∀{n_:o7} {y:Int},F_m n_=some y→l9 Tryz.prog 127 [o7.v n_] [] (fun r H=>r=.int .i64 y∧H=[]):=fun hy=>by
 obtain ⟨n,hn⟩:=a0n hy
 exact (g0e n) hn
instance c9v {n_:o7}:WI (F_m n_) Tryz.prog 127 [o7.v n_] [] (fun y=>.int .i64 y) (fun y=>[]):=⟨fun Q Q' h hQ=>by obtain ⟨y,hy,hq⟩:=h;exact (W_m hy).mono fun r H' e=>by rw [e.1,e.2];exact hQ y hq⟩
@[go_sem] def f1e (l_:List o9) (x19:Int):Option (Fl Int (Sum Unit Bool)) :=
 bif decide (x19<(l_.length:Int)) then jn (α:=Fl (Int×Bool×Bool×Bool) Bool) (chk (inb x19 l_.length) (chk (inb x19 l_.length) (bif decide ((((l_.getD (x19).toNat default).High).toNat:Int)<(((l_.getD (x19).toNat default).Low).toNat:Int)) then some (.ex false) else bif decide (0<x19) then chk (inb x19 l_.length) (chk (a0c (x19 - 1)) (chk (inb (x19 - 1) l_.length) (chk (a0c ((((l_.getD ((x19 - 1)).toNat default).High).toNat:Int)+2)) (bif decide ((((l_.getD (x19).toNat default).Low).toNat:Int)<((((l_.getD ((x19 - 1)).toNat default).High).toNat:Int)+2)) then some (.ex false) else some (.nx (x19,decide (0<x19),true,decide ((((l_.getD (x19).toNat default).Low).toNat:Int)<((((l_.getD ((x19 - 1)).toNat default).High).toNat:Int)+2)))))))) else some (.nx (x19,decide (0<x19),false,false))))) fun o=>o.elim (fun j22=>chk (a0c (x19+1)) (some (.nx (x19+1)))) (fun r23=>some (.ex (.inr r23))) else some (.ex (.inl ()))
def e9u (l_:List o9):Option Bool :=
 (loop (f1e l_) 0).bind fun r24=>Sum.elim (fun u25=>some (decide (0<(l_.length:Int)))) (fun u26=>some u26) r24
@[irreducible] def d8e:MC:=rdc (cK Tryz.prog Tryz.f150 [] [] 10000003)
@[irreducible] def e67:MC:=rdc (cK Tryz.prog Tryz.f150 [] [(10000003,d8e)] 2)
instance:LI d8e 0 0 [0,3] [] (fun y:Int×Bool×Bool×Bool=>[(22,.int .i64 y.1),(23,.bool y.2.1),(24,.bool y.2.2.1),(40,.bool y.2.2.2)]) (fun y=>[]) []:=⟨⟩
instance:LI e67 0 0 [0] [] (fun y:Int=>[(3,.int .i64 y)]) (fun y=>[]) []:=⟨⟩
instance f6q {l_:List o9}:WJ (e9u l_) 150 [.sl (l_.map o9.v)] .bool:=wX Tryz.func150 [] [(10000003,d8e),(2,e67)] (h:=fun _ _ h hQ M=>by unfold e9u at h;exact tX)
@[go_sem] def f1d (n_:o7) (x9:Int):Option (Fl Int (Sum Unit Bool)) :=
 bif decide (x9<(n_.Kids.length:Int)) then chk (inb x9 n_.Kids.length) (bif decide ((n_.Kids.getD (x9).toNat default).Op=n_.Op) then some (.ex (.inr false)) else chk (a0c (x9+1)) (some (.nx (x9+1)))) else some (.ex (.inl ()))
def e9z (n_:o7):Option Bool :=
 (loop (f1d n_) 0).bind fun r10=>Sum.elim (fun u11=>grp ((decide (2≤(n_.Kids.length:Int))&&decide ((n_.Ranges.length:Int)=0))) fun b16=>grp ((b16&&decide (n_.Min=0))) fun b17=>grp ((b17&&decide (n_.Max=0))) fun b18=>some b18) (fun u12=>some u12) r10
def f9x:List (Nat×RN):=[(3,⟨[.gc [1,3,25,26,27,28,31,32,33,36,37,38]],[],[]⟩),(6,⟨[],[],[.v 5 9,.v 11 14,.v 16 19]⟩)]
@[irreducible] def e66:MC:=rdc (cK Tryz.prog Tryz.f151 f9x [] 2)
instance:LI e66 0 0 [1] [1] (fun y:Int=>[(3,.int .i64 y)]) (fun y=>[]) []:=⟨⟩
instance f6t {n_:o7}:WJ (e9z n_) 151 [o7.v n_] .bool:=wX Tryz.func151 f9x [(2,e66)] (h:=fun _ _ h hQ M=>by unfold e9z at h;exact tX)
def d3s:Nat→o7→Option Bool
 | 0,_=>none
 | n+1,n_ =>
 jn (α:=Bool) (bif decide (n_.Op=1) then (e9u n_.Ranges).bind fun y14=>grp ((y14&&decide ((n_.Kids.length:Int)=0))) fun b15=>grp ((b15&&decide (n_.Min=0))) fun b16=>grp ((b16&&decide (n_.Max=0))) fun b17=>some b17 else jn (α:=Bool) (bif decide (n_.Op=2) then some true else some (decide (n_.Op=3))) fun j18=>bif j18 then (e9z n_).bind fun y19=>some y19 else bif decide (n_.Op=4) then grp ((decide ((n_.Kids.length:Int)=1)&&decide ((n_.Ranges.length:Int)=0))) fun b20=>grp ((b20&&decide (0≤n_.Min))) fun b21=>grp ((b21&&decide (1≤n_.Max))) fun b22=>grp ((b22&&decide (n_.Min≤n_.Max))) fun b23=>grp ((b23&&decide (n_.Max≤64))) fun b24=>grp ((b24&&((!decide (n_.Min=1))||(!decide (n_.Max=1))))) fun b25=>some b25 else some false) fun j13=>(loop (fun (x62:Bool×Int)=>(grp ((decide (x62.2<(n_.Kids.length:Int))&&x62.1)) fun b72=>bif b72 then chk (inb x62.2 n_.Kids.length) ((d3s n (n_.Kids.getD (x62.2).toNat default)).bind fun y74=>chk (a0c (x62.2+1)) (some (.nx (y74,(x62.2+1))))) else some (.ex x62.1):Option (Fl (Bool×Int) Bool))) (j13,0)).bind fun r75=>some r75
def F_c (n_:o7):Option Bool:=lim fun n=>d3s n n_
@[irreducible] def d6w:List MOp:=rdc (cG Tryz.prog Tryz.f128 [] 4 4 8)
@[irreducible] def d6v:List MOp:=rdc (cG Tryz.prog Tryz.f128 [] 4 10 13)
@[irreducible] def d6u:List MOp:=rdc (cG Tryz.prog Tryz.f128 [] 4 15 18)
@[irreducible] def d6t:List MOp:=rdc (cG Tryz.prog Tryz.f128 [] 9 5 9)
@[irreducible] def d6s:List MOp:=rdc (cG Tryz.prog Tryz.f128 [] 9 11 14)
@[irreducible] def d6r:List MOp:=rdc (cG Tryz.prog Tryz.f128 [] 9 16 19)
@[irreducible] def d6q:List MOp:=rdc (cG Tryz.prog Tryz.f128 [] 9 21 26)
@[irreducible] def d6p:List MOp:=rdc (cG Tryz.prog Tryz.f128 [] 9 28 31)
@[irreducible] def d6o:List MOp:=rdc (cG Tryz.prog Tryz.f128 [] 9 33 41)
@[irreducible] def d6n:List MOp:=rdc (cG Tryz.prog Tryz.f128 [] 11 6 7)
def a_c:List (Nat×RN):=[(4,⟨[],[],[.u 4 8 d6w,.u 10 13 d6v,.u 15 18 d6u]⟩),(9,⟨[],[],[.u 5 9 d6t,.u 11 14 d6s,.u 16 19 d6r,.u 21 26 d6q,.u 28 31 d6p,.u 33 41 d6o]⟩),(11,⟨[],[],[.u 6 7 d6n]⟩),(13,⟨[.gc [1,4,83]],[],[]⟩)]
@[irreducible] def c6u:MC:=rdc (cK Tryz.prog Tryz.f128 a_c [] 10000007)
@[irreducible] def d15:MC:=rdc (cK Tryz.prog Tryz.f128 a_c [(10000007,c6u)] 11)
@[irreducible] def d8d:MC:=rdc (cK Tryz.prog Tryz.f128 a_c [(10000007,c6u),(11,d15)] 10000010)
def f8x:MC:=rdc (cT Tryz.prog Tryz.f128 a_c [(10000007,c6u),(11,d15),(10000010,d8d)])
theorem g33 {n:Nat} (ih_ref05_right:∀{n_:o7} {y:Bool},d3s n n_=some y→l9 Tryz.prog 128 [o7.v n_] [] (fun r H=>r=.bool y∧H=[])) (n_:o7) {Q:Bool→Prop} {Q':V→Heap→Prop} (h:Ok (d3s (n+1) n_) Q) (hQ:∀z,Q z→Q' (.bool z) []):l9 Tryz.prog 128 [o7.v n_] [] Q':=by
 refine a0s f8x [] [] [.t 2] Tryz.func128 fun M=>?_
 simp only [d3s] at h
 unfold f8x
 replace h:=tY h
 refine tB ?_
 repeat' (first
 | (exact tZ)
 | ((first|refine a6y h ?_|refine a1i h ?_|refine fork h ?_ ?_|refine a1j h ?_ ?_)<;>clear h<;>intro hc h)
 | (obtain ⟨y,hy,h⟩:=h;(first|with_reducible first|have hw:=f6q.c.w hy|have hw:=f6t.c.w hy|have hw:=ih_ref05_right hy);replace hw:=tY hw;(first|refine M.sC hw ?_|refine M.sD hw ?_);clear hw hy;refine tB ?_)
 | (refine M.gv1 (ms:=d6u) 27 [24,25,26] h ?_ ?_<;>first
 | (clear h;intro K hK1;unfold d6u;refine tB ?_)
 | (clear h;intro b h;replace h:=tY h;refine tB ?_))
 | (refine M.gv1 (ms:=d6v) 22 [19,20,21] h ?_ ?_<;>first
 | (clear h;intro K hK2;unfold d6v;refine tB ?_)
 | (clear h;intro b h;replace h:=tY h;refine tB ?_))
 | (refine M.gv1 (ms:=d6w) 17 [13,14,15,16] h ?_ ?_<;>first
 | (clear h;intro K hK3;unfold d6w;refine tB ?_)
 | (clear h;intro b h;replace h:=tY h;refine tB ?_))
 | (refine M.gv1 (ms:=d6o) 76 [68,69,70,71,72,73,74,75] h ?_ ?_<;>first
 | (clear h;intro K hK4;unfold d6o;refine tB ?_)
 | (clear h;intro b h;replace h:=tY h;refine tB ?_))
 | (refine M.gv1 (ms:=d6p) 66 [63,64,65] h ?_ ?_<;>first
 | (clear h;intro K hK5;unfold d6p;refine tB ?_)
 | (clear h;intro b h;replace h:=tY h;refine tB ?_))
 | (refine M.gv1 (ms:=d6q) 61 [56,57,58,59,60] h ?_ ?_<;>first
 | (clear h;intro K hK6;unfold d6q;refine tB ?_)
 | (clear h;intro b h;replace h:=tY h;refine tB ?_))
 | (refine M.gv1 (ms:=d6r) 54 [51,52,53] h ?_ ?_<;>first
 | (clear h;intro K hK7;unfold d6r;refine tB ?_)
 | (clear h;intro b h;replace h:=tY h;refine tB ?_))
 | (refine M.gv1 (ms:=d6s) 49 [46,47,48] h ?_ ?_<;>first
 | (clear h;intro K hK8;unfold d6s;refine tB ?_)
 | (clear h;intro b h;replace h:=tY h;refine tB ?_))
 | (refine M.gv1 (ms:=d6t) 44 [40,41,42,43] h ?_ ?_<;>first
 | (clear h;intro K hK9;unfold d6t;refine tB ?_)
 | (clear h;intro b h;replace h:=tY h;refine tB ?_))
 | (refine M.jn1 (b:=c6u) [1,3,6] [1] (fun y=>[(28,.bool y)]) (fun y=>[]) [] h ?_ ?_<;>first
 | (clear h;intro Qn K hK10 h;replace h:=tY h;refine tB ?_)
  |(clear h;intro y h;unfold c6u;replace h:=tY h;refine tB ?_))
 | (refine M.gv1 (ms:=d6n) 84 [83] h ?_ ?_<;>first
 | (clear h;intro K hK11;unfold d6n;refine tB ?_)
 | (clear h;intro b h;replace h:=tY h;refine tB ?_))
 | (refine M.wh1 (b:=d15) [1] [1] (fun x=>[(3,.bool x.1),(4,.int .i64 x.2)]) (fun x=>[]) [] h ?_ ?_<;>first
 | (clear h;intro x Qn K hK12 h;unfold d15;replace h:=tY h;refine tB ?_)
  |(clear h;(try refine tB ?_);exact tU0;done))
 | (refine M.jn1 (b:=d8d) [1] [1] (fun y=>[(3,.bool y)]) (fun y=>[]) [] h ?_ ?_<;>first
 | (clear h;intro Qn K hK13 h;replace h:=tY h;refine tB ?_)
  |(clear h;intro y h;unfold d8d;replace h:=tY h;refine tB ?_))
 | ((first|refine hK1 _ ?_|refine hK2 _ ?_|refine hK3 _ ?_|refine hK4 _ ?_|refine hK5 _ ?_|refine hK6 _ ?_|refine hK7 _ ?_|refine hK8 _ ?_|refine hK9 _ ?_|refine hK11 _ ?_);exact tU;done)
 | ((first|refine hK10 _ ?_|refine hK12 _ ?_|refine hK13 _ ?_);(try refine tB ?_);refine ⟨_,h,?_⟩;exact tU0;done)
 | (refine a9i (fun hc=>?_) (fun hc=>?_))
 | (refine tE ?_;(first|rw [M.lok_compU]|rw [M.lokD_compU]);refine tB ?_)
 | (refine tA ?_)
 | fail)
theorem g0l:∀n,(∀{n_:o7} {y:Bool},d3s n n_=some y→l9 Tryz.prog 128 [o7.v n_] [] (fun r H=>r=.bool y∧H=[]))
 | 0=>fun hy=>(by simp only [d3s] at hy;cases hy)
 | n+1=>by
  have ih_ref05_right:=@g0l n
  exact fun hy=>g33 ih_ref05_right _ (Q:=(·=_)) ⟨_,hy,rfl⟩ fun|_,rfl=>⟨rfl,rfl⟩
theorem W_c:∀{n_:o7} {y:Bool},F_c n_=some y→l9 Tryz.prog 128 [o7.v n_] [] (fun r H=>r=.bool y∧H=[]):=fun hy=>by
 obtain ⟨n,hn⟩:=a0n hy
 exact (g0l n) hn
instance c9u {n_:o7}:WI (F_c n_) Tryz.prog 128 [o7.v n_] [] (fun y=>.bool y) (fun y=>[]):=⟨fun Q Q' h hQ=>by obtain ⟨y,hy,hq⟩:=h;exact (W_c hy).mono fun r H' e=>by rw [e.1,e.2];exact hQ y hq⟩
def c5n:Nat→o7→Bool→Option Int
 | 0,_,_=>none
 | n+1,n_,jG =>
 jn (α:=Fl Int Int) (bif decide (n_.Op=1) then some (.ex 1) else bif decide (n_.Op=2) then (loop (fun (x47:Int×Int)=>(bif decide (x47.2<(n_.Kids.length:Int)) then chk (inb x47.2 n_.Kids.length) ((c5n n (n_.Kids.getD (x47.2).toNat default) jG).bind fun y51=>chk (a0c (x47.1+y51)) (chk (a0c (x47.2+1)) (some (.nx ((x47.1+y51),(x47.2+1)))))) else some (.ex x47.1):Option (Fl (Int×Int) Int))) (0,0)).bind fun r52=>some (.nx r52) else bif decide (n_.Op=3) then chk (inb 0 n_.Kids.length) ((c5n n (n_.Kids.getD 0 default) jG).bind fun y54=>(loop (fun (x71:Int×Int)=>(bif decide (x71.2<(n_.Kids.length:Int)) then jn (α:=Int) (chk (inb x71.2 n_.Kids.length) ((c5n n (n_.Kids.getD (x71.2).toNat default) jG).bind fun y87=>grp ((jG&&decide (x71.1<y87))) fun b90=>grp ((b90||((!jG)&&decide (y87<x71.1)))) fun b91=>bif b91 then some y87 else some x71.1)) fun j85=>chk (a0c (x71.2+1)) (some (.nx (j85,(x71.2+1)))) else some (.ex x71.1):Option (Fl (Int×Int) Int))) (y54,1)).bind fun r92=>some (.nx r92)) else jn (α:=Int) (bif jG then some n_.Max else some n_.Min) fun j93=>chk (inb 0 n_.Kids.length) ((c5n n (n_.Kids.getD 0 default) jG).bind fun y94=>chk (a0c (j93*y94)) (some (.nx (j93*y94))))) fun o=>o.elim (fun j40=>some (min j40 1025)) (fun r95=>some r95)
def F_2 (n_:o7) (jG:Bool):Option Int:=lim fun n=>c5n n n_ jG
@[irreducible] def d6m:List MOp:=rdc (cG Tryz.prog Tryz.f129 [] 20 2 5)
@[irreducible] def d6l:List MOp:=rdc (cG Tryz.prog Tryz.f129 [] 20 7 14)
def a_2:List (Nat×RN):=[(3,⟨[.gc [1,2]],[],[]⟩),(12,⟨[.gc [1,2,5,6]],[],[]⟩),(15,⟨[.gc [1,2,69,70,71,74,75,76,77,78,79,80]],[],[]⟩),(20,⟨[.gc [1,2,5,7,8,69,70,71,74,75,76,77,78,79,80]],[],[.u 2 5 d6m,.u 7 14 d6l]⟩)]
@[irreducible] def c0k:MC:=rdc (cK Tryz.prog Tryz.f129 a_2 [] 11)
@[irreducible] def c4e:MC:=rdc (cK Tryz.prog Tryz.f129 a_2 [(11,c0k)] 10000018)
@[irreducible] def c6t:MC:=rdc (cK Tryz.prog Tryz.f129 a_2 [(11,c0k),(10000018,c4e)] 17)
@[irreducible] def d14:MC:=rdc (cK Tryz.prog Tryz.f129 a_2 [(11,c0k),(10000018,c4e),(17,c6t)] 10000006)
@[irreducible] def d8c:MC:=rdc (cK Tryz.prog Tryz.f129 a_2 [(11,c0k),(10000018,c4e),(17,c6t),(10000006,d14)] 10000022)
def f9f:MC:=rdc (cT Tryz.prog Tryz.f129 a_2 [(11,c0k),(10000018,c4e),(17,c6t),(10000006,d14),(10000022,d8c)])
theorem g4k {n:Nat} (ih_ref05_size:∀{n_:o7} {jG:Bool} {y:Int},c5n n n_ jG=some y→l9 Tryz.prog 129 [o7.v n_,.bool jG] [] (fun r H=>r=.int .i64 y∧H=[])) (n_:o7) (jG:Bool) {Q:Int→Prop} {Q':V→Heap→Prop} (h:Ok (c5n (n+1) n_ jG) Q) (hQ:∀z,Q z→Q' (.int .i64 z) []):l9 Tryz.prog 129 [o7.v n_,.bool jG] [] Q':=by
 refine a0s f9f [] [] [.t 4] Tryz.func129 fun M=>?_
 simp only [c5n] at h
 unfold f9f
 replace h:=tY h
 refine tB ?_
 repeat' (first
 | (exact tZ)
 | ((first|refine a6y h ?_|refine a1i h ?_|refine fork h ?_ ?_|refine a1j h ?_ ?_)<;>clear h<;>intro hc h)
 | (obtain ⟨y,hy,h⟩:=h;have hw:=ih_ref05_size hy;replace hw:=tY hw;(first|refine M.sC hw ?_|refine M.sD hw ?_);clear hw hy;refine tB ?_)
 | (refine M.wh1 (b:=c0k) [1,2] [2] (fun x=>[(5,.int .i64 x.1),(6,.int .i64 x.2)]) (fun x=>[]) [] h ?_ ?_<;>first
 | (clear h;intro x Qn K hK1 h;unfold c0k;replace h:=tY h;refine tB ?_)
  |(clear h;(try refine tB ?_);exact tU0;done))
 | (refine M.gv1 (ms:=d6l) 81 [74,75,76,77,78,79,80] h ?_ ?_<;>first
 | (clear h;intro K hK2;unfold d6l;refine tB ?_)
 | (clear h;intro b h;replace h:=tY h;refine tB ?_))
 | (refine M.gv1 (ms:=d6m) 72 [69,70,71] h ?_ ?_<;>first
 | (clear h;intro K hK3;unfold d6m;refine tB ?_)
 | (clear h;intro b h;replace h:=tY h;refine tB ?_))
 | (refine M.jn1 (b:=c4e) [1,2,7] [2] (fun y=>[(5,.int .i64 y)]) (fun y=>[]) [] h ?_ ?_<;>first
 | (clear h;intro Qn K hK4 h;replace h:=tY h;refine tB ?_)
  |(clear h;intro y h;unfold c4e;replace h:=tY h;refine tB ?_))
 | (refine M.wh1 (b:=c6t) [1,2] [2] (fun x=>[(5,.int .i64 x.1),(7,.int .i64 x.2)]) (fun x=>[]) [] h ?_ ?_<;>first
 | (clear h;intro x Qn K hK5 h;unfold c6t;replace h:=tY h;refine tB ?_)
  |(clear h;(try refine tB ?_);exact tU0;done))
 | (refine M.jn1 (b:=d14) [1,2] [2] (fun y=>[(9,.int .i64 y)]) (fun y=>[]) [] h ?_ ?_<;>first
 | (clear h;intro Qn K hK6 h;replace h:=tY h;refine tB ?_)
  |(clear h;intro y h;unfold d14;replace h:=tY h;refine tB ?_))
 | (refine M.jnE (b:=d8c) [] [] (fun y=>[(5,.int .i64 y)]) (fun y=>[]) [] h ?_ ?_<;>first
 | (clear h;intro Qn K hK7 h;replace h:=tY h;refine tB ?_)
  |(clear h;intro y h;unfold d8c;replace h:=tY h;refine tB ?_))
 | ((first|refine hK1 _ ?_|refine hK4 _ ?_|refine hK5 _ ?_|refine hK6 _ ?_|refine hK7 _ ?_);(try refine tB ?_);refine ⟨_,h,?_⟩;exact tU0;done)
 | ((first|refine hK2 _ ?_|refine hK3 _ ?_);exact tU;done)
 | (refine a9i (fun hc=>?_) (fun hc=>?_))
 | (refine tE ?_;(first|rw [M.lok_compU]|rw [M.lokD_compU]);refine tB ?_)
 | (refine tA ?_)
 | fail)
theorem g0q:∀n,(∀{n_:o7} {jG:Bool} {y:Int},c5n n n_ jG=some y→l9 Tryz.prog 129 [o7.v n_,.bool jG] [] (fun r H=>r=.int .i64 y∧H=[]))
 | 0=>fun hy=>(by simp only [c5n] at hy;cases hy)
 | n+1=>by
  have ih_ref05_size:=@g0q n
  exact fun hy=>g4k ih_ref05_size _ _ (Q:=(·=_)) ⟨_,hy,rfl⟩ fun|_,rfl=>⟨rfl,rfl⟩
theorem W_2:∀{n_:o7} {jG:Bool} {y:Int},F_2 n_ jG=some y→l9 Tryz.prog 129 [o7.v n_,.bool jG] [] (fun r H=>r=.int .i64 y∧H=[]):=fun hy=>by
 obtain ⟨n,hn⟩:=a0n hy
 exact (g0q n) hn
instance d3j {n_:o7} {jG:Bool}:WI (F_2 n_ jG) Tryz.prog 129 [o7.v n_,.bool jG] [] (fun y=>.int .i64 y) (fun y=>[]):=⟨fun Q Q' h hQ=>by obtain ⟨y,hy,hq⟩:=h;exact (W_2 hy).mono fun r H' e=>by rw [e.1,e.2];exact hQ y hq⟩
def e0z (n_:o7):Option Int :=
 (e9q n_).bind fun y4=>bif decide (200<y4) then some 3 else (F_m n_).bind fun y8=>bif decide (20<y8) then some 9 else (F_c n_).bind fun y12=>bif (!y12) then some 1 else (F_2 n_ true).bind fun y16=>bif decide (1024<y16) then some 3 else some 0
instance g48 {n_:o7}:WJ (e0z n_) 103 [o7.v n_] (.int .i64):=wX Tryz.func103 [(5,⟨[.gc [1]],[],[]⟩)] (h:=fun _ _ h hQ M=>by unfold e0z at h;exact tX)
@[go_sem] def f1r (m_:u6) (x314:Bool×Int×(List Bool)) (x340:Bool×Int×(List Bool)):Option (Fl (Bool×Int×(List Bool)) (Bool×(List Bool))) :=
 chk (inb x314.2.1 m_.Edges.length) (bif decide (x340.2.1<((m_.Edges.getD (x314.2.1).toNat default).length:Int)) then chk (inb x314.2.1 x340.2.2.length) (bif (!(x340.2.2.getD ((x314.2.1).toNat) default)) then jn (α:=Bool×(List Bool)) (chk (inb x314.2.1 m_.Edges.length) (chk (inb x340.2.1 (m_.Edges.getD (x314.2.1).toNat default).length) (chk (inb (((m_.Edges.getD (x314.2.1).toNat default).getD (x340.2.1).toNat default).To) x340.2.2.length) (bif x340.2.2.getD ((((m_.Edges.getD (x314.2.1).toNat default).getD (x340.2.1).toNat default).To).toNat) default then chk (inb x314.2.1 x340.2.2.length) (some (true,x340.2.2.set ((x314.2.1).toNat) true)) else some (x340.1,x340.2.2))))) fun j342=>chk (a0c (x340.2.1+1)) (some (.nx (j342.1,(x340.2.1+1),j342.2))) else some (.ex (x340.1,x340.2.2))) else some (.ex (x340.1,x340.2.2)))
@[go_sem] def f1k (m_:u6) (x314:Bool×Int×(List Bool)):Option (Fl (Bool×Int×(List Bool)) (Bool×(List Bool))) :=
 bif decide (x314.2.1<(x314.2.2.length:Int)) then (loop (f1r m_ x314) (x314.1,0,x314.2.2)).bind fun r343=>chk (a0c (x314.2.1+1)) (some (.nx (r343.1,(x314.2.1+1),r343.2))) else some (.ex (x314.1,x314.2.2))
@[go_sem] def f7k (m_:u6) (x237:Bool×(List Bool)):Option (Fl (Bool×(List Bool)) (List Bool)) :=
 bif x237.1 then (loop (f1k m_) (false,0,x237.2)).bind fun r344=>some (.nx (r344.1,r344.2)) else some (.ex x237.2)
def f04 (m_:u6):Option (List Bool) :=
 chk (room (([]:List Bool).length+m_.Accepts.length) 1) ((loop (f7k m_) (true,(([]:List Bool)++m_.Accepts))).bind fun r345=>some r345)
def e9j:List (Nat×RN):=[(11,⟨[.gc [1,3,4,5,6,27,28,29,30,31]],[],[]⟩),(12,⟨[.gc [1,3,5,6,27,28,29,30,31]],[],[]⟩)]
@[irreducible] def c6s:MC:=rdc (cK Tryz.prog Tryz.f153 e9j [] 10000010)
@[irreducible] def d1s:MC:=rdc (cK Tryz.prog Tryz.f153 e9j [(10000010,c6s)] 9)
@[irreducible] def d93:MC:=rdc (cK Tryz.prog Tryz.f153 e9j [(10000010,c6s),(9,d1s)] 6)
@[irreducible] def e5p:MC:=rdc (cK Tryz.prog Tryz.f153 e9j [(10000010,c6s),(9,d1s),(6,d93)] 3)
instance:LI c6s 0 0 [1,5,6,28,29,30,31] [1] (fun y:Bool×(List Bool)=>[(3,.osl 10 1 0 y.2.length),(4,.bool y.1),(27,.osl 10 1 0 y.2.length)]) (fun y=>[.o 10 (.arr 1 (y.2.map V.bool))]) []:=⟨⟩
instance:LI d1s 0 0 [1,5] [1] (fun y:Bool×Int×(List Bool)=>[(3,.osl 10 1 0 y.2.2.length),(4,.bool y.1),(6,.int .i64 y.2.1)]) (fun y=>[.o 10 (.arr 1 (y.2.2.map V.bool))]) []:=⟨⟩
instance:LI d93 0 0 [1] [1] (fun y:Bool×Int×(List Bool)=>[(3,.osl 10 1 0 y.2.2.length),(4,.bool y.1),(5,.int .i64 y.2.1)]) (fun y=>[.o 10 (.arr 1 (y.2.2.map V.bool))]) []:=⟨⟩
instance:LI e5p 0 0 [1] [1] (fun y:Bool×(List Bool)=>[(3,.osl 10 1 0 y.2.length),(4,.bool y.1)]) (fun y=>[.o 10 (.arr 1 (y.2.map V.bool))]) []:=⟨⟩
instance g4u {m_:u6}:WJ (f04 m_) 153 [u6.v m_] fun z=>.sl (z.map V.bool):=wX Tryz.func153 e9j [(10000010,c6s),(9,d1s),(6,d93),(3,e5p)] [.fz 2] (h:=fun _ _ h hQ M=>by unfold f04 at h;exact tX)
@[go_sem] def f1w (x369:Int×(List (List Int))) (x484:Int×(List (List Int))):Option (Fl (Int×(List (List Int))) (List (List Int))) :=
 bif decide (x484.1<256) then chk (inb x369.1 x484.2.length) (chk (inb x484.1 256) (chk (ltb ((x369.1).toNat) x484.2.length) (chk (ltb ((x484.1).toNat) 256) (chk (a0c (x484.1+1)) (some (.nx ((x484.1+1),x484.2.set ((x369.1).toNat) (b1j (x484.2.getD ((x369.1).toNat) default) ((x484.1).toNat) (-1))))))))) else some (.ex x484.2)
@[go_sem] def f1q (m_:u6) (y2:List Bool) (x369:Int×(List (List Int))) (x504:Int×(List (List Int))) (x519:Int×(List (List Int))):Option (Fl (Int×(List (List Int))) (List (List Int))) :=
 bif decide (x519.1≤(((((m_.Edges.getD (x369.1).toNat default).getD (x504.1).toNat default).Range).High).toNat:Int)) then chk (inb (((m_.Edges.getD (x369.1).toNat default).getD (x504.1).toNat default).To) y2.length) (bif (y2.getD (((m_.Edges.getD (x369.1).toNat default).getD (x504.1).toNat default).To).toNat default) then chk (inb x369.1 x519.2.length) (chk (inb x519.1 256) (chk (ltb ((x369.1).toNat) x519.2.length) (chk (ltb ((x519.1).toNat) 256) (chk (a0c (x519.1+1)) (some (.nx ((x519.1+1),x519.2.set ((x369.1).toNat) (b1j (x519.2.getD ((x369.1).toNat) default) ((x519.1).toNat) (((m_.Edges.getD (x369.1).toNat default).getD (x504.1).toNat default).To))))))))) else some (.ex x519.2)) else some (.ex x519.2)
@[go_sem] def f1j (m_:u6) (y2:List Bool) (x369:Int×(List (List Int))) (x504:Int×(List (List Int))):Option (Fl (Int×(List (List Int))) (List (List Int))) :=
 chk (inb x369.1 m_.Edges.length) (bif decide (x504.1<((m_.Edges.getD (x369.1).toNat default).length:Int)) then chk (inb x369.1 m_.Edges.length) (chk (inb x504.1 (m_.Edges.getD (x369.1).toNat default).length) ((loop (f1q m_ y2 x369 x504) ((((((m_.Edges.getD (x369.1).toNat default).getD (x504.1).toNat default).Range).Low).toNat:Int),x504.2)).bind fun r520=>chk (a0c (x504.1+1)) (some (.nx ((x504.1+1),r520))))) else some (.ex x504.2))
@[go_sem] def f7j (m_:u6) (y2:List Bool) (x369:Int×(List (List Int))):Option (Fl (Int×(List (List Int))) (List (List Int))) :=
 bif decide (x369.1<(x369.2.length:Int)) then (loop (f1w x369) (0,x369.2)).bind fun r485=>(loop (f1j m_ y2 x369) (0,r485)).bind fun r521=>chk (a0c (x369.1+1)) (some (.nx ((x369.1+1),r521))) else some (.ex x369.2)
def f03 (m_:u6):Option (List (List Int)) :=
 (f04 m_).bind fun y2=>chk (a98 (m_.Edges.length:Int) (m_.Edges.length:Int) 2048) ((loop (f7j m_ y2) (0,List.replicate ((m_.Edges.length:Int)).toNat (List.replicate 256 0))).bind fun r522=>some r522)
def e9i:List (Nat×RN):=[(13,⟨[.gc [1,3,4,5,7,60,61,62,63,64]],[],[]⟩),(14,⟨[.gc [1,3,4,5,7,8,60,61,62,63,64]],[],[]⟩),(17,⟨[.gc [1,3,4,5,7,8,9,60,61,62,63,64]],[],[]⟩)]
@[irreducible] def c74:MC:=rdc (cK Tryz.prog Tryz.f134 e9i [] 7)
@[irreducible] def d1r:MC:=rdc (cK Tryz.prog Tryz.f134 e9i [(7,c74)] 15)
@[irreducible] def d92:MC:=rdc (cK Tryz.prog Tryz.f134 e9i [(7,c74),(15,d1r)] 11)
@[irreducible] def e5o:MC:=rdc (cK Tryz.prog Tryz.f134 e9i [(7,c74),(15,d1r),(11,d92)] 4)
instance:LI c74 0 0 [1,3,5] [1] (fun y:Int×(List (List Int))=>[(4,.osl 15 256 0 y.2.length),(6,.int .i64 y.1)]) (fun y=>[.o 15 (.arr 256 (y.2.map (agV (V.int .i64))))]) []:=⟨⟩
instance:LI d1r 0 0 [1,3,5,7,8] [8,1] (fun y:Int×(List (List Int))=>[(4,.osl 15 256 0 y.2.length),(9,.int .i64 y.1)]) (fun y=>[.o 15 (.arr 256 (y.2.map (agV (V.int .i64))))]) []:=⟨⟩
instance:LI d92 0 0 [1,3,5] [1] (fun y:Int×(List (List Int))=>[(4,.osl 15 256 0 y.2.length),(7,.int .i64 y.1)]) (fun y=>[.o 15 (.arr 256 (y.2.map (agV (V.int .i64))))]) []:=⟨⟩
instance:LI e5o 0 0 [1,3] [1] (fun y:Int×(List (List Int))=>[(4,.osl 15 256 0 y.2.length),(5,.int .i64 y.1)]) (fun y=>[.o 15 (.arr 256 (y.2.map (agV (V.int .i64))))]) []:=⟨⟩
instance g4t {m_:u6}:WJ (f03 m_) 134 [u6.v m_] fun z=>.sl (z.map (agV (V.int .i64))):=wX Tryz.func134 e9i [(7,c74),(15,d1r),(11,d92),(4,e5o)] [.fz 2] (h:=fun _ _ h hQ M=>by unfold f03 at h;exact tX)
@[go_sem] def f7z (m_:u6) (t_:List (List Int)) (x12:Int×(List Int)):Option (Fl (Int×(List Int)) (List Int)) :=
 bif decide (x12.1<(t_.length:Int)) then jn (α:=List Int) (chk (inb x12.1 m_.Accepts.length) (bif (m_.Accepts.getD (x12.1).toNat default) then chk (inb x12.1 x12.2.length) (some (x12.2.set ((x12.1).toNat) 1)) else some x12.2)) fun j14=>chk (a0c (x12.1+1)) (some (.nx ((x12.1+1),j14))) else some (.ex x12.2)
@[go_sem] def f1v (t_:List (List Int)) (x394:Int×(List Int)) (x739:Int×(List Int)×(List (List Int×Int))) (x796:Int×(List Int)):Option (Fl (Int×(List Int)) (List Int)) :=
 bif decide (x796.1<256) then jn (α:=List Int) (chk (inb x796.1 257) (chk (ltb ((x796.1).toNat) x796.2.length) (chk (inb x739.1 t_.length) (chk (eqn (t_.getD (x739.1).toNat default).length 256) (chk (inb x796.1 256) (chk (ltb ((x796.1).toNat) (t_.getD (x739.1).toNat default).length) (bif decide (0≤((t_.getD (x739.1).toNat default).getD ((x796.1).toNat) default)) then chk (inb x739.1 t_.length) (chk (eqn (t_.getD (x739.1).toNat default).length 256) (chk (inb x796.1 256) (chk (ltb ((x796.1).toNat) (t_.getD (x739.1).toNat default).length) (chk (inb ((t_.getD (x739.1).toNat default).getD ((x796.1).toNat) default) x394.2.length) (chk (inb x796.1 257) (chk (ltb ((x796.1).toNat) (b1j x796.2 ((x796.1).toNat) (-1)).length) (some (b1j (b1j x796.2 ((x796.1).toNat) (-1)) ((x796.1).toNat) (x394.2.getD ((((t_.getD (x739.1).toNat default).getD ((x796.1).toNat) default)).toNat) default))))))))) else some (b1j x796.2 ((x796.1).toNat) (-1))))))))) fun j798=>chk (a0c (x796.1+1)) (some (.nx ((x796.1+1),j798))) else some (.ex x796.2)
@[go_sem] def f1i (t_:List (List Int)) (x394:Int×(List Int)) (x739:Int×(List Int)×(List (List Int×Int))):Option (Fl (Int×(List Int)×(List (List Int×Int))) ((List Int)×(List (List Int×Int)))) :=
 bif decide (x739.1<(t_.length:Int)) then chk (inb x739.1 x394.2.length) (chk (ltb 256 (List.replicate 257 0).length) ((loop (f1v t_ x394 x739) (0,(b1j (List.replicate 257 0) 256 (x394.2.getD ((x739.1).toNat) default)))).bind fun r799=>chk (e2g 257 r799.length) (chk (eqn (r799.take 257).length 257) (jn (α:=Int×(List (List Int×Int))) (bif (!((b5x (r799.take 257) x739.2.2).isSome)) then chk (a1o x739.2.2.length) (chk (e2g 257 r799.length) (chk (eqn (r799.take 257).length 257) (some ((x739.2.2.length:Int),c5l (r799.take 257) (x739.2.2.length:Int) x739.2.2)))) else some (((b5x (r799.take 257) x739.2.2).getD 0),x739.2.2)) fun j800=>chk (inb x739.1 x739.2.1.length) (chk (a0c (x739.1+1)) (some (.nx ((x739.1+1),x739.2.1.set ((x739.1).toNat) j800.1,j800.2)))))))) else some (.ex (x739.2.1,x739.2.2))
@[go_sem] def f1c (t_:List (List Int)) (x394:Int×(List Int)):Option (Fl (Int×(List Int)) (List Int)) :=
 chk (a98 (t_.length:Int) (t_.length:Int) 8) ((loop (f1i t_ x394) (0,List.replicate ((t_.length:Int)).toNat 0,[])).bind fun r801=>chk (a1o r801.2.length) (bif decide ((r801.2.length:Int)=x394.1) then some (.ex r801.1) else chk (a1o r801.2.length) (some (.nx ((r801.2.length:Int),r801.1)))))
def f07 (m_:u6) (t_:List (List Int)):Option (List Int) :=
 chk (a98 (t_.length:Int) (t_.length:Int) 8) ((loop (f7z m_ t_) (0,List.replicate ((t_.length:Int)).toNat 0)).bind fun r15=>(loop (f1c t_) (0,r15)).bind fun r802=>some r802)
def d4l:List (Nat×RN):=[(6,⟨[.gc [1,2,5,6]],[],[]⟩),(20,⟨[.gc [1,5,7,8,9,10,11,12]],[],[]⟩),(23,⟨[.gc [1,5,7,8,9,10,11]],[],[]⟩)]
@[irreducible] def b8r:MC:=rdc (cK Tryz.prog Tryz.f135 d4l [] 10000004)
@[irreducible] def c0n:MC:=rdc (cK Tryz.prog Tryz.f135 d4l [(10000004,b8r)] 3)
@[irreducible] def c4d:MC:=rdc (cK Tryz.prog Tryz.f135 d4l [(10000004,b8r),(3,c0n)] 10000017)
@[irreducible] def c73:MC:=rdc (cK Tryz.prog Tryz.f135 d4l [(10000004,b8r),(3,c0n),(10000017,c4d)] 16)
@[irreducible] def d13:MC:=rdc (cK Tryz.prog Tryz.f135 d4l [(10000004,b8r),(3,c0n),(10000017,c4d),(16,c73)] 10000025)
@[irreducible] def d91:MC:=rdc (cK Tryz.prog Tryz.f135 d4l [(10000004,b8r),(3,c0n),(10000017,c4d),(16,c73),(10000025,d13)] 11)
@[irreducible] def e5z:MC:=rdc (cK Tryz.prog Tryz.f135 d4l [(10000004,b8r),(3,c0n),(10000017,c4d),(16,c73),(10000025,d13),(11,d91)] 8)
instance:LI b8r 0 0 [1,2,6] [2] (fun y:List Int=>[(5,.osl 17 1 0 y.length)]) (fun y=>[.o 17 (.arr 1 (y.map (V.int .i64)))]) []:=⟨⟩
instance:LI c0n 0 0 [1,2] [2] (fun y:Int×(List Int)=>[(5,.osl 17 1 0 y.2.length),(6,.int .i64 y.1)]) (fun y=>[.o 17 (.arr 1 (y.2.map (V.int .i64)))]) []:=⟨⟩
instance:LI c4d 0 0 [1,5,7,8,9,10,11,12] [35,32,2005] (fun y:List Int=>[]) (fun y=>[.o 11 (.cells (y.map (V.int .i64)))]) []:=⟨⟩
instance:LI c73 0 0 [1,5,7,8,9,10,11] [35,32,2005] (fun y:Int×(List Int)=>[(12,.int .i64 y.1)]) (fun y=>[.o 11 (.cells (y.2.map (V.int .i64)))]) []:=⟨⟩
instance:LI d13 0 0 [1,5,7,8,9,10] [35,2005] (fun y:Int×(List (List Int×Int))=>[(13,.int .i64 y.1)]) (fun y=>[.o 32 (.map (.arr 257 .i64) (y.2.map (kvV (agV (V.int .i64)) (V.int .i64))))]) []:=⟨⟩
instance:LI d91 0 0 [1,5,7,8] [2005] (fun y:Int×(List Int)×(List (List Int×Int))=>[(9,.osl 35 1 0 y.2.1.length),(10,.int .i64 y.1)]) (fun y=>[.o 35 (.arr 1 (y.2.1.map (V.int .i64))),.o 32 (.map (.arr 257 .i64) (y.2.2.map (kvV (agV (V.int .i64)) (V.int .i64))))]) []:=⟨⟩
instance:LI e5z 0 0 [1] [] (fun y:Int×(List Int)=>[(5,.osl 2005 1 0 y.2.length),(7,.int .i64 y.1)]) (fun y=>[.o 2005 (.arr 1 (y.2.map (V.int .i64)))]) [.gc [1,5,7],.renq 2005 902005,.acc 5 2005 1]:=⟨⟩
instance g52 {m_:u6} {t_:List (List Int)}:WJ (f07 m_ t_) 135 [u6.v m_,.sl (t_.map (agV (V.int .i64)))] fun z=>.sl (z.map (V.int .i64)):=wX Tryz.func135 d4l [(10000004,b8r),(3,c0n),(10000017,c4d),(16,c73),(10000025,d13),(11,d91),(8,e5z)] [.fz 4] (h:=fun _ _ h hQ M=>by unfold f07 at h;exact tX)
@[go_sem] def f7y (x11:Int×(List Int)):Option (Fl (Int×(List Int)) (List Int)) :=
 bif decide (x11.1<(x11.2.length:Int)) then chk (inb x11.1 x11.2.length) (chk (a0c (x11.1+1)) (some (.nx ((x11.1+1),x11.2.set ((x11.1).toNat) (-1))))) else some (.ex x11.2)
@[go_sem] def f1h (y2:List (List Int)) (y4:List Int) (x279:Int×(List (List a0k))×(List Bool)×(List Int)×(List Int)) (x379:Int×(List a0k)×(List Int)×(List Int)):Option (Fl (Int×(List a0k)×(List Int)×(List Int)) ((List a0k)×(List Int)×(List Int))) :=
 bif decide (x379.1<256) then jn (α:=(List a0k)×(List Int)×(List Int)) (chk (inb (x279.2.2.2.1.getD ((x279.1).toNat) default) y2.length) (chk (eqn (y2.getD (x279.2.2.2.1.getD ((x279.1).toNat) default).toNat default).length 256) (chk (inb x379.1 256) (chk (ltb ((x379.1).toNat) (y2.getD (x279.2.2.2.1.getD ((x279.1).toNat) default).toNat default).length) (bif decide (((y2.getD (x279.2.2.2.1.getD ((x279.1).toNat) default).toNat default).getD ((x379.1).toNat) default)<0) then some (x379.2.1,x379.2.2.1,x379.2.2.2) else chk (inb (x279.2.2.2.1.getD ((x279.1).toNat) default) y2.length) (chk (eqn (y2.getD (x279.2.2.2.1.getD ((x279.1).toNat) default).toNat default).length 256) (chk (inb x379.1 256) (chk (ltb ((x379.1).toNat) (y2.getD (x279.2.2.2.1.getD ((x279.1).toNat) default).toNat default).length) (chk (inb ((y2.getD (x279.2.2.2.1.getD ((x279.1).toNat) default).toNat default).getD ((x379.1).toNat) default) y4.length) (jn (α:=(List Int)×(List Int)) (chk (inb (y4.getD (((y2.getD (x279.2.2.2.1.getD ((x279.1).toNat) default).toNat default).getD ((x379.1).toNat) default)).toNat default) x379.2.2.2.length) (bif decide (x379.2.2.2.getD (((y4.getD (((y2.getD (x279.2.2.2.1.getD ((x279.1).toNat) default).toNat default).getD ((x379.1).toNat) default)).toNat default)).toNat) default<0) then chk (inb (y4.getD (((y2.getD (x279.2.2.2.1.getD ((x279.1).toNat) default).toNat default).getD ((x379.1).toNat) default)).toNat default) x379.2.2.2.length) (chk (inb (x279.2.2.2.1.getD ((x279.1).toNat) default) y2.length) (chk (eqn (y2.getD (x279.2.2.2.1.getD ((x279.1).toNat) default).toNat default).length 256) (chk (inb x379.1 256) (chk (ltb ((x379.1).toNat) (y2.getD (x279.2.2.2.1.getD ((x279.1).toNat) default).toNat default).length) (chk (room (x379.2.2.1.length+[((y2.getD (x279.2.2.2.1.getD ((x279.1).toNat) default).toNat default).getD ((x379.1).toNat) default)].length) 8) (some ((x379.2.2.1++[((y2.getD (x279.2.2.2.1.getD ((x279.1).toNat) default).toNat default).getD ((x379.1).toNat) default)]),x379.2.2.2.set (((y4.getD (((y2.getD (x279.2.2.2.1.getD ((x279.1).toNat) default).toNat default).getD ((x379.1).toNat) default)).toNat default)).toNat) (x379.2.2.1.length:Int)))))))) else some (x379.2.2.1,x379.2.2.2))) fun j386=>jn (α:=Bool) (bif decide (0<(x379.2.1.length:Int)) then chk (a0c ((x379.2.1.length:Int) - 1)) (chk (inb ((x379.2.1.length:Int) - 1) x379.2.1.length) (chk (inb (y4.getD (((y2.getD (x279.2.2.2.1.getD ((x279.1).toNat) default).toNat default).getD ((x379.1).toNat) default)).toNat default) j386.2.length) (bif decide ((x379.2.1.getD ((((x379.2.1.length:Int) - 1)).toNat) default).To=j386.2.getD (((y4.getD (((y2.getD (x279.2.2.2.1.getD ((x279.1).toNat) default).toNat default).getD ((x379.1).toNat) default)).toNat default)).toNat) default) then chk (a0c ((x379.2.1.length:Int) - 1)) (chk (inb ((x379.2.1.length:Int) - 1) x379.2.1.length) (chk (a0c (x379.1 - 1)) (some (decide (((((x379.2.1.getD ((((x379.2.1.length:Int) - 1)).toNat) default).Range).High).toNat:Int)=(x379.1 - 1)))))) else some false))) else some false) fun j387=>bif j387 then chk (a0c ((x379.2.1.length:Int) - 1)) (chk (inb ((x379.2.1.length:Int) - 1) x379.2.1.length) (some (x379.2.1.set ((((x379.2.1.length:Int) - 1)).toNat) (a0k.mk (o9.mk (((x379.2.1.getD ((((x379.2.1.length:Int) - 1)).toNat) default).Range).Low) (u8 x379.1)) ((x379.2.1.getD ((((x379.2.1.length:Int) - 1)).toNat) default).To)),j386.1,j386.2))) else chk (inb (y4.getD (((y2.getD (x279.2.2.2.1.getD ((x279.1).toNat) default).toNat default).getD ((x379.1).toNat) default)).toNat default) j386.2.length) (chk (room (x379.2.1.length+[(a0k.mk (o9.mk (u8 x379.1) (u8 x379.1)) (j386.2.getD (((y4.getD (((y2.getD (x279.2.2.2.1.getD ((x279.1).toNat) default).toNat default).getD ((x379.1).toNat) default)).toNat default)).toNat) default))].length) 16) (some ((x379.2.1++[(a0k.mk (o9.mk (u8 x379.1) (u8 x379.1)) (j386.2.getD (((y4.getD (((y2.getD (x279.2.2.2.1.getD ((x279.1).toNat) default).toNat default).getD ((x379.1).toNat) default)).toNat default)).toNat) default))]),j386.1,j386.2))))))))))))) fun j385=>chk (a0c (x379.1+1)) (some (.nx ((x379.1+1),j385.1,j385.2.1,j385.2.2))) else some (.ex (x379.2.1,x379.2.2.1,x379.2.2.2))
@[go_sem] def f7i (m_:u6) (y2:List (List Int)) (y4:List Int) (x279:Int×(List (List a0k))×(List Bool)×(List Int)×(List Int)):Option (Fl (Int×(List (List a0k))×(List Bool)×(List Int)×(List Int)) ((List (List a0k))×(List Bool))) :=
 bif decide (x279.1<(x279.2.2.2.1.length:Int)) then chk (inb x279.1 x279.2.2.2.1.length) ((loop (f1h y2 y4 x279) (0,[],x279.2.2.2.1,x279.2.2.2.2)).bind fun r388=>chk (room (x279.2.1.length+[r388.1].length) 24) (chk (inb (x279.2.2.2.1.getD ((x279.1).toNat) default) m_.Accepts.length) (chk (room (x279.2.2.1.length+[(m_.Accepts.getD (x279.2.2.2.1.getD ((x279.1).toNat) default).toNat default)].length) 1) (chk (a0c (x279.1+1)) (some (.nx ((x279.1+1),(x279.2.1++[r388.1]),(x279.2.2.1++[(m_.Accepts.getD (x279.2.2.2.1.getD ((x279.1).toNat) default).toNat default)]),r388.2.1,r388.2.2))))))) else some (.ex (x279.2.1,x279.2.2.1))
def e3e (m_:u6):Option u6 :=
 (f03 m_).bind fun y2=>(f07 m_ y2).bind fun y4=>chk (a98 (y2.length:Int) (y2.length:Int) 8) ((loop f7y (0,List.replicate ((y2.length:Int)).toNat 0)).bind fun r12=>chk (inb 0 y4.length) (chk (inb (y4.getD 0 default) r12.length) ((loop (f7i m_ y2 y4) (0,[],[],[0],r12.set (((y4.getD 0 default)).toNat) 0)).bind fun r389=>some (u6.mk r389.1 r389.2))))
def e0u:List (Nat×RN):=[(10,⟨[],[.k 0 1],[]⟩),(13,⟨[.gc [1,2,3,4,5,7,8,9,92,93,94,95,96,97,98,99,100,101,102,105,106,107,108,109,110,111,112,113,114,115]],[],[]⟩),(15,⟨[],[.k 0 1],[]⟩),(20,⟨[.gc [1,2,3,4,5,7,8,9,10,11,12,92,93,94,95,96,97,98,99,100,101,102,105,106,107,108,109,110,111,112,113,114,115]],[],[]⟩),(21,⟨[.gc [1,2,3,4,5,7,8,9,10,11,12,13,92,93,94,95,96,97,98,99,100,101,102,105,106,107,108,109,110,111,112,113,114,115]],[],[]⟩),(23,⟨[.gc [1,2,3,4,5,7,8,9,10,11,12,13,92,93,94,95,96,97,98,99,100,101,102,105,106,107,108,109,110,111,112,113,114,115]],[],[]⟩),(28,⟨[.fz 11],[],[]⟩)]
@[irreducible] def c0m:MC:=rdc (cK Tryz.prog Tryz.f107 e0u [] 5)
@[irreducible] def c4c:MC:=rdc (cK Tryz.prog Tryz.f107 e0u [(5,c0m)] 10000026)
@[irreducible] def c6r:MC:=rdc (cK Tryz.prog Tryz.f107 e0u [(5,c0m),(10000026,c4c)] 10000024)
@[irreducible] def d12:MC:=rdc (cK Tryz.prog Tryz.f107 e0u [(5,c0m),(10000026,c4c),(10000024,c6r)] 10000018)
@[irreducible] def d90:MC:=rdc (cK Tryz.prog Tryz.f107 e0u [(5,c0m),(10000026,c4c),(10000024,c6r),(10000018,d12)] 17)
@[irreducible] def e5n:MC:=rdc (cK Tryz.prog Tryz.f107 e0u [(5,c0m),(10000026,c4c),(10000024,c6r),(10000018,d12),(17,d90)] 12)
instance:LI c0m 0 0 [1,2,3,4] [2,1] (fun y:Int×(List Int)=>[(5,.osl 22 1 0 y.2.length),(6,.int .i64 y.1)]) (fun y=>[.o 22 (.arr 1 (y.2.map (V.int .i64)))]) []:=⟨⟩
instance:LI c4c 0 0 [1,2,3,4,5,7,8,9,10,11,12,13,14] [2011,8,4128,4129,2007,22,2,1] (fun y:Bool=>[(116,.bool y)]) (fun y=>[]) []:=⟨⟩
instance:LI c6r 0 0 [1,2,3,4,8,9,10,11,12,13] [2011,8,4128,4129,2,1] (fun y:(List Int)×(List Int)=>[(5,.osl 22 1 0 y.2.length),(7,.osl 2007 1 0 y.1.length)]) (fun y=>[.o 2007 (.arr 1 (y.1.map (V.int .i64))),.o 22 (.arr 1 (y.2.map (V.int .i64)))]) [.gc [1,2,3,4,5,7,8,9,10,11,12,13],.renq 2007 902007,.acc 7 2007 1]:=⟨⟩
instance:LI d12 0 0 [1,2,3,4,8,9,10,12] [8,4128,4129,2,1] (fun y:(List a0k)×(List Int)×(List Int)=>[(5,.osl 22 1 0 y.2.2.length),(7,.osl 2007 1 0 y.2.1.length),(11,.osl 2011 3 0 y.1.length)]) (fun y=>[.o 2011 (.arr 3 (y.1.map a0k.v)),.o 2007 (.arr 1 (y.2.1.map (V.int .i64))),.o 22 (.arr 1 (y.2.2.map (V.int .i64)))]) [.gc [1,2,3,4,5,7,8,9,10,11,12],.renq 2011 902011,.acc 11 2011 3]:=⟨⟩
instance:LI d90 0 0 [1,2,3,4,8,9,10] [8,4128,4129,2,1] (fun y:Int×(List a0k)×(List Int)×(List Int)=>[(5,.osl 22 1 0 y.2.2.2.length),(7,.osl 2007 1 0 y.2.2.1.length),(11,.osl 2011 3 0 y.2.1.length),(12,.int .i64 y.1)]) (fun y=>[.o 2011 (.arr 3 (y.2.1.map a0k.v)),.o 2007 (.arr 1 (y.2.2.1.map (V.int .i64))),.o 22 (.arr 1 (y.2.2.2.map (V.int .i64)))]) [.gc [1,2,3,4,5,7,8,9,10,11,12],.acc 11 2011 3]:=⟨⟩
instance:LI e5n 0 0 [1,2,3,4,8] [2,1] (fun y:Int×(List (List a0k))×(List Bool)×(List Int)×(List Int)=>[(5,.osl 22 1 0 y.2.2.2.2.length),(7,.osl 2007 1 0 y.2.2.2.1.length),(9,.int .i64 y.1)]) (fun y=>[.o 8 (.cells [.osl 4128 1 0 y.2.1.length,.osl 4129 1 0 y.2.2.1.length]),.o 4128 (.arr 1 (y.2.1.map (slV a0k.v))),.o 4129 (.arr 1 (y.2.2.1.map V.bool)),.o 2007 (.arr 1 (y.2.2.2.1.map (V.int .i64))),.o 22 (.arr 1 (y.2.2.2.2.map (V.int .i64)))]) [.gc [1,2,3,4,5,7,8,9],.renq 2007 902007,.acc 7 2007 1,.ownC 8 0 4128 1 none,.ownC 8 1 4129 1 none]:=⟨⟩
instance g51 {m_:u6}:WJ (e3e m_) 107 [u6.v m_] fun z=>u6.v z:=wX Tryz.func107 e0u [(5,c0m),(10000026,c4c),(10000024,c6r),(10000018,d12),(17,d90),(12,e5n)] [.fzc 2] (h:=fun _ _ h hQ M=>by unfold e3e at h;exact tX)
@[go_sem] def f1u (l_:List (List o9)) (x47:Int×(List Bool)) (x62:Int×(List Bool)):Option (Fl (Int×(List Bool)) (List Bool)) :=
 chk (inb x47.1 l_.length) (bif decide (x62.1<((l_.getD (x47.1).toNat default).length:Int)) then chk (inb x47.1 l_.length) (chk (inb x62.1 (l_.getD (x47.1).toNat default).length) (chk (inb x47.1 l_.length) (chk (inb x62.1 (l_.getD (x47.1).toNat default).length) (chk (a0c (((((l_.getD (x47.1).toNat default).getD (x62.1).toNat default).High).toNat:Int)+1)) (chk (inb ((((l_.getD (x47.1).toNat default).getD (x62.1).toNat default).Low).toNat:Int) 257) (chk (ltb ((((((l_.getD (x47.1).toNat default).getD (x62.1).toNat default).Low).toNat:Int)).toNat) x62.2.length) (chk (inb (((((l_.getD (x47.1).toNat default).getD (x62.1).toNat default).High).toNat:Int)+1) 257) (chk (ltb (((((((l_.getD (x47.1).toNat default).getD (x62.1).toNat default).High).toNat:Int)+1)).toNat) (b1j x62.2 ((((((l_.getD (x47.1).toNat default).getD (x62.1).toNat default).Low).toNat:Int)).toNat) true).length) (chk (a0c (x62.1+1)) (some (.nx ((x62.1+1),(b1j (b1j x62.2 ((((((l_.getD (x47.1).toNat default).getD (x62.1).toNat default).Low).toNat:Int)).toNat) true) (((((((l_.getD (x47.1).toNat default).getD (x62.1).toNat default).High).toNat:Int)+1)).toNat) true))))))))))))) else some (.ex x62.2))
@[go_sem] def f1p (l_:List (List o9)) (x47:Int×(List Bool)):Option (Fl (Int×(List Bool)) (List Bool)) :=
 bif decide (x47.1<(l_.length:Int)) then (loop (f1u l_ x47) (0,x47.2)).bind fun r63=>chk (a0c (x47.1+1)) (some (.nx ((x47.1+1),r63))) else some (.ex x47.2)
@[go_sem] def f1b (r64:List Bool) (x76:Int×(List Int)):Option (Fl (Int×(List Int)) (List Int)) :=
 bif decide (x76.1<256) then jn (α:=List Int) (chk (inb x76.1 257) (chk (ltb ((x76.1).toNat) r64.length) (bif (r64.getD ((x76.1).toNat) default) then chk (room (x76.2.length+[x76.1].length) 8) (some (x76.2++[x76.1])) else some x76.2))) fun j78=>chk (a0c (x76.1+1)) (some (.nx ((x76.1+1),j78))) else some (.ex x76.2)
def f02 (l_:List (List o9)):Option (List Int) :=
 chk (ltb 0 (List.replicate 257 false).length) ((loop (f1p l_) (0,(b1j (List.replicate 257 false) 0 true))).bind fun r64=>(loop (f1b r64) (0,[])).bind fun r79=>chk (room (r79.length+[256].length) 8) (some (r79++[256])))
def e9h:List (Nat×RN):=[(8,⟨[.gc [0,3,4,5]],[],[]⟩),(10,⟨[],[.k 0 1],[]⟩)]
@[irreducible] def c71:MC:=rdc (cK Tryz.prog Tryz.f131 e9h [] 7)
@[irreducible] def d1q:MC:=rdc (cK Tryz.prog Tryz.f131 e9h [(7,c71)] 4)
@[irreducible] def d8b:MC:=rdc (cK Tryz.prog Tryz.f131 e9h [(7,c71),(4,d1q)] 10000013)
@[irreducible] def e5y:MC:=rdc (cK Tryz.prog Tryz.f131 e9h [(7,c71),(4,d1q),(10000013,d8b)] 12)
instance:LI c71 0 0 [0,3,4] [] (fun y:Int×(List Bool)=>[(5,.int .i64 y.1)]) (fun y=>[.o 3 (.cells (y.2.map V.bool))]) []:=⟨⟩
instance:LI d1q 0 0 [0,3] [] (fun y:Int×(List Bool)=>[(4,.int .i64 y.1)]) (fun y=>[.o 3 (.cells (y.2.map V.bool))]) []:=⟨⟩
instance:LI d8b 0 0 [3,7] [3] (fun y:List Int=>[(6,.osl 2006 1 0 y.length)]) (fun y=>[.o 2006 (.arr 1 (y.map (V.int .i64)))]) [.gc [3,6,7],.renq 2006 902006,.acc 6 2006 1]:=⟨⟩
instance:LI e5y 0 0 [3] [3] (fun y:Int×(List Int)=>[(6,.osl 2006 1 0 y.2.length),(7,.int .i64 y.1)]) (fun y=>[.o 2006 (.arr 1 (y.2.map (V.int .i64)))]) [.gc [3,6,7],.acc 6 2006 1]:=⟨⟩
instance g4s {l_:List (List o9)}:WJ (f02 l_) 131 [.sl (l_.map (slV o9.v))] fun z=>.sl (z.map (V.int .i64)):=wX Tryz.func131 e9h [(7,c71),(4,d1q),(10000013,d8b),(12,e5y)] [.fz 2] (h:=fun _ _ h hQ M=>by unfold f02 at h;exact tX)
@[go_sem] def f0z (l_:List Int) (x7:Int×(List UInt8)):Option (Fl (Int×(List UInt8)) (List UInt8)) :=
 bif decide (x7.1<(l_.length:Int)) then chk (inb x7.1 l_.length) (chk (inb x7.1 l_.length) (chk (room (x7.2.length+[(u8 ((l_.getD (x7.1).toNat default) / 2^8)),(u8 (l_.getD (x7.1).toNat default))].length) 1) (chk (a0c (x7.1+1)) (some (.nx ((x7.1+1),(x7.2++[(u8 ((l_.getD (x7.1).toNat default) / 2^8)),(u8 (l_.getD (x7.1).toNat default))]))))))) else some (.ex x7.2)
def e2u (l_:List Int):Option Str :=
 (loop (f0z l_) (0,[])).bind fun r8=>some r8
def f9w:List (Nat×RN):=[(1,⟨[],[.k 0 1],[]⟩),(4,⟨[.gc [0,3,4]],[],[]⟩)]
@[irreducible] def e5x:MC:=rdc (cK Tryz.prog Tryz.f133 f9w [] 3)
instance:LI e5x 0 0 [0] [] (fun y:Int×(List UInt8)=>[(3,.osl 2003 1 0 y.2.length),(4,.int .i64 y.1)]) (fun y=>[.o 2003 (.arr 1 (y.2.map a0a))]) [.gc [0,3,4],.acc 3 2003 1]:=⟨⟩
instance g4j {l_:List Int}:WJ (e2u l_) 133 [.sl (l_.map (V.int .i64))] .str:=wX Tryz.func133 f9w [(3,e5x)] (h:=fun _ _ h hQ M=>by unfold e2u at h;exact tX)
set_option maxRecDepth 20000
set_option maxHeartbeats 2000000
structure o8 where
 qD:List (List o9)
 jD:List (List Int)
instance:Inhabited o8:=⟨⟨default,default⟩⟩
def o8.v (x:o8):V:=.agg [.sl (x.qD.map (slV o9.v)),.sl (x.jD.map (slV (V.int .i64)))]
structure a0h where
 jH:Bool
 vG:List Int
 qE:List Int
instance:Inhabited a0h:=⟨⟨default,default,default⟩⟩
def a0h.v (x:a0h):V:=.agg [.bool x.jH,.sl (x.vG.map (V.int .i64)),.sl (x.qE.map (V.int .i64))]
instance:NA a0k.v:=⟨fun _ h=>by cases h⟩
attribute [go_sem] a0h.v o8.v
def d3r:Nat→o7→Option Int
 | 0,_=>none
 | n+1,n_ =>
 bif decide (n_.Op=1) then some 1 else (loop (fun (x17:Int×Int)=>(bif decide (x17.2<(n_.Kids.length:Int)) then chk (inb x17.2 n_.Kids.length) ((d3r n (n_.Kids.getD (x17.2).toNat default)).bind fun y21=>chk (a0c (x17.1+y21)) (chk (a0c (x17.2+1)) (some (.nx ((x17.1+y21),(x17.2+1)))))) else some (.ex x17.1):Option (Fl (Int×Int) Int))) (0,0)).bind fun r22=>jn (α:=Int) (bif decide (n_.Op=4) then chk (a0c (r22*n_.Max)) (some (r22*n_.Max)) else some r22) fun j23=>some (min j23 601)
def F_f (n_:o7):Option Int:=lim fun n=>d3r n n_
def a_f:List (Nat×RN):=[(6,⟨[.gc [1,3,4]],[],[]⟩)]
@[irreducible] def d11:MC:=rdc (cK Tryz.prog Tryz.f104 a_f [] 5)
@[irreducible] def d8a:MC:=rdc (cK Tryz.prog Tryz.f104 a_f [(5,d11)] 10000010)
def f8u:MC:=rdc (cT Tryz.prog Tryz.f104 a_f [(5,d11),(10000010,d8a)])
theorem g30 {n:Nat} (ih_ref06_sets:∀{n_:o7} {y:Int},d3r n n_=some y→l9 Tryz.prog 104 [o7.v n_] [] (fun r H=>r=.int .i64 y∧H=[])) (n_:o7) {Q:Int→Prop} {Q':V→Heap→Prop} (h:Ok (d3r (n+1) n_) Q) (hQ:∀z,Q z→Q' (.int .i64 z) []):l9 Tryz.prog 104 [o7.v n_] [] Q':=by
 refine a0s f8u [] [] [.t 2] Tryz.func104 fun M=>?_
 simp only [d3r] at h
 unfold f8u
 replace h:=tY h
 refine tB ?_
 repeat' (first
 | (exact tZ)
 | ((first|refine a6y h ?_|refine a1i h ?_|refine fork h ?_ ?_|refine a1j h ?_ ?_)<;>clear h<;>intro hc h)
 | (obtain ⟨y,hy,h⟩:=h;have hw:=ih_ref06_sets hy;replace hw:=tY hw;(first|refine M.sC hw ?_|refine M.sD hw ?_);clear hw hy;refine tB ?_)
 | (refine M.wh1 (b:=d11) [1] [1] (fun x=>[(3,.int .i64 x.1),(4,.int .i64 x.2)]) (fun x=>[]) [] h ?_ ?_<;>first
 | (clear h;intro x Qn K hK1 h;unfold d11;replace h:=tY h;refine tB ?_)
  |(clear h;(try refine tB ?_);exact tU0;done))
 | (refine M.jn1 (b:=d8a) [] [] (fun y=>[(3,.int .i64 y)]) (fun y=>[]) [] h ?_ ?_<;>first
 | (clear h;intro Qn K hK2 h;replace h:=tY h;refine tB ?_)
  |(clear h;intro y h;unfold d8a;replace h:=tY h;refine tB ?_))
 | ((first|refine hK1 _ ?_|refine hK2 _ ?_);(try refine tB ?_);refine ⟨_,h,?_⟩;exact tU0;done)
 | (refine tE ?_;(first|rw [M.lok_compU]|rw [M.lokD_compU]);refine tB ?_)
 | (refine tA ?_)
 | fail)
theorem g0i:∀n,(∀{n_:o7} {y:Int},d3r n n_=some y→l9 Tryz.prog 104 [o7.v n_] [] (fun r H=>r=.int .i64 y∧H=[]))
 | 0=>fun hy=>(by simp only [d3r] at hy;cases hy)
 | n+1=>by
  have ih_ref06_sets:=@g0i n
  exact fun hy=>g30 ih_ref06_sets _ (Q:=(·=_)) ⟨_,hy,rfl⟩ fun|_,rfl=>⟨rfl,rfl⟩
theorem W_f:∀{n_:o7} {y:Int},F_f n_=some y→l9 Tryz.prog 104 [o7.v n_] [] (fun r H=>r=.int .i64 y∧H=[]):=fun hy=>by
 obtain ⟨n,hn⟩:=a0n hy
 exact (g0i n) hn
instance d3i {n_:o7}:WI (F_f n_) Tryz.prog 104 [o7.v n_] [] (fun y=>.int .i64 y) (fun y=>[]):=⟨fun Q Q' h hQ=>by obtain ⟨y,hy,hq⟩:=h;exact (W_f hy).mono fun r H' e=>by rw [e.1,e.2];exact hQ y hq⟩
@[go_sem] def f1o (a_:a0h) (b_:a0h) (x7:Int×(List (List Int))):Option (Fl (Int×(List (List Int))) (List (List Int))) :=
 bif decide (x7.1<(a_.qE.length:Int)) then chk (inb x7.1 a_.qE.length) (chk (inb x7.1 a_.qE.length) (chk (inb (a_.qE.getD (x7.1).toNat default) x7.2.length) (chk (room ((x7.2.getD (((a_.qE.getD (x7.1).toNat default)).toNat) default).length+b_.vG.length) 8) (chk (inb (a_.qE.getD (x7.1).toNat default) x7.2.length) (chk (a0c (x7.1+1)) (some (.nx ((x7.1+1),x7.2.set (((a_.qE.getD (x7.1).toNat default)).toNat) (x7.2.getD (((a_.qE.getD (x7.1).toNat default)).toNat) default++b_.vG))))))))) else some (.ex x7.2)
def e3c (w_:o8) (a_:a0h) (b_:a0h):Option (a0h×o8) :=
 (loop (f1o a_ b_) (0,w_.jD)).bind fun r8=>jn (α:=Bool×(List Int)×(List Int)) (bif a_.jH then chk (room (([]:List Int).length+a_.vG.length) 8) (chk (room (([]:List Int).length+b_.qE.length) 8) (some (b_.jH,(([]:List Int)++a_.vG),(([]:List Int)++b_.qE)))) else chk (room (([]:List Int).length+a_.vG.length) 8) (chk (room (([]:List Int).length+b_.qE.length) 8) (some (false,(([]:List Int)++a_.vG),(([]:List Int)++b_.qE))))) fun j9=>jn (α:=Bool×(List Int)) (bif a_.jH then chk (room (j9.2.1.length+b_.vG.length) 8) (some (j9.1,(j9.2.1++b_.vG))) else some (j9.1,j9.2.1)) fun j10=>bif b_.jH then chk (room (j9.2.2.length+a_.qE.length) 8) (some ((a0h.mk j10.1 j10.2 (j9.2.2++a_.qE)),(o8.mk w_.qD r8))) else some ((a0h.mk j10.1 j10.2 j9.2.2),(o8.mk w_.qD r8))
def f0o:List (Nat×RN):=[(3,⟨[.gc [0,4,5,6,7,43,44]],[],[]⟩),(4,⟨[],[.k 19 9,.k 24 9],[]⟩)]
@[irreducible] def d1p:MC:=rdc (cK Tryz.prog Tryz.f130 f0o [] 2)
@[irreducible] def d89:MC:=rdc (cK Tryz.prog Tryz.f130 f0o [(2,d1p)] 10000008)
@[irreducible] def e5d:MC:=rdc (cK Tryz.prog Tryz.f130 f0o [(2,d1p),(10000008,d89)] 10000006)
instance:LI d1p 0 0 [0,4,5,6] [1000,1001,6,5,4] (fun y:Int×(List (List Int))=>[(7,.int .i64 y.1)]) (fun y=>[.p 1000 1 [.osl 1002 1 0 y.2.length],.o 1002 (.rws 1 (y.2.map (List.map (V.int .i64))))]) []:=⟨⟩
instance:LI d89 0 0 [4,5,6,8] [1000,1001,1002,8,53,6,5,4] (fun y:Bool×(List Int)=>[]) (fun y=>[.p 8 0 [.bool y.1],.p 8 1 [.osl 4129 1 0 y.2.length],.o 4129 (.arr 1 (y.2.map (V.int .i64)))]) [.gc [4,5,6,8],.ownC 8 1 4129 1 none]:=⟨⟩
instance:LI e5d 0 0 [4,5,6] [1000,1001,1002,6,5,4] (fun y:Bool×(List Int)×(List Int)=>[(8,.ptr 8 0)]) (fun y=>[.o 8 (.cells [.bool y.1,.osl 49 1 0 y.2.1.length,.osl 53 1 0 y.2.2.length]),.o 49 (.arr 1 (y.2.1.map (V.int .i64))),.o 53 (.arr 1 (y.2.2.map (V.int .i64)))]) []:=⟨⟩
instance e9l {w_:o8} {a_ b_:a0h}:WI (e3c w_ a_ b_) Tryz.prog 130 [.ptr 1000 0,a0h.v a_,a0h.v b_] [(1000,.cells [.osl 1001 1 0 w_.qD.length,.osl 1002 1 0 w_.jD.length]),(1001,.arr 1 (w_.qD.map (slV o9.v))),(1002,.rws 1 (w_.jD.map (List.map (V.int .i64))))] (fun z=>a0h.v z.1) (fun z=>[(1000,.cells [.osl 1700 1 0 z.2.qD.length,.osl 1701 1 0 z.2.jD.length]),(1700,.arr 1 (z.2.qD.map (slV o9.v))),(1701,.rws 1 (z.2.jD.map (List.map (V.int .i64))))]):=wX Tryz.func130 f0o [(2,d1p),(10000008,d89),(10000006,e5d)] [.ownC 1000 0 1700 1 none,.ownC 1000 1 1701 1 none,.rwn 1701 1,.fzc 6] [1000,1700,1701] (h:=fun _ _ h hQ M=>by unfold e3c at h;exact tX)
def c9f:Nat→o8→o7→Option (a0h×o8)
 | 0,_,_=>none
 | n+1,w_,n_ =>
 bif decide (n_.Op=1) then chk (room (w_.qD.length+[n_.Ranges].length) 24) (chk (a9v w_.jD.length 24) (chk (a0c (((w_.qD++[n_.Ranges]).length:Int) - 1)) (some ((a0h.mk false [(((w_.qD++[n_.Ranges]).length:Int) - 1)] [(((w_.qD++[n_.Ranges]).length:Int) - 1)]),(o8.mk (w_.qD++[n_.Ranges]) (w_.jD++[[]])))))) else bif decide (n_.Op=2) then (loop (fun (x115:Int×(List (List o9))×(List (List Int))×a0h)=>(bif decide (x115.1<(n_.Kids.length:Int)) then chk (inb x115.1 n_.Kids.length) ((c9f n (o8.mk x115.2.1 x115.2.2.1) (n_.Kids.getD (x115.1).toNat default)).bind fun y122=>(e3c (o8.mk y122.2.qD y122.2.jD) x115.2.2.2 y122.1).bind fun y123=>chk (a0c (x115.1+1)) (some (.nx ((x115.1+1),y123.2.qD,y123.2.jD,y123.1)))) else some (.ex (x115.2.1,x115.2.2.1,x115.2.2.2)):Option (Fl (Int×(List (List o9))×(List (List Int))×a0h) ((List (List o9))×(List (List Int))×a0h)))) (0,w_.qD,w_.jD,(a0h.mk true [] []))).bind fun r124=>some (r124.2.2,(o8.mk r124.1 r124.2.1)) else bif decide (n_.Op=3) then (loop (fun (x171:Int×(List (List o9))×(List (List Int))×Bool×(List Int)×(List Int))=>(bif decide (x171.1<(n_.Kids.length:Int)) then chk (inb x171.1 n_.Kids.length) ((c9f n (o8.mk x171.2.1 x171.2.2.1) (n_.Kids.getD (x171.1).toNat default)).bind fun y185=>grp ((x171.2.2.2.1||y185.1.jH)) fun b187=>chk (room (x171.2.2.2.2.1.length+y185.1.vG.length) 8) (chk (room (x171.2.2.2.2.2.length+y185.1.qE.length) 8) (chk (a0c (x171.1+1)) (some (.nx ((x171.1+1),y185.2.qD,y185.2.jD,b187,(x171.2.2.2.2.1++y185.1.vG),(x171.2.2.2.2.2++y185.1.qE))))))) else some (.ex (x171.2.1,x171.2.2.1,x171.2.2.2.1,x171.2.2.2.2.1,x171.2.2.2.2.2)):Option (Fl (Int×(List (List o9))×(List (List Int))×Bool×(List Int)×(List Int)) ((List (List o9))×(List (List Int))×Bool×(List Int)×(List Int))))) (0,w_.qD,w_.jD,false,[],[])).bind fun r188=>some ((a0h.mk r188.2.2.1 r188.2.2.2.1 r188.2.2.2.2),(o8.mk r188.1 r188.2.1)) else (loop (fun (x245:Int×(List (List o9))×(List (List Int))×a0h)=>(bif decide (1≤x245.1) then chk (inb 0 n_.Kids.length) ((c9f n (o8.mk x245.2.1 x245.2.2.1) (n_.Kids.getD 0 default)).bind fun y263=>(e3c (o8.mk y263.2.qD y263.2.jD) y263.1 x245.2.2.2).bind fun y264=>grp ((y264.1.jH||decide (n_.Min<x245.1))) fun b265=>chk (a0c (x245.1 - 1)) (some (.nx ((x245.1 - 1),y264.2.qD,y264.2.jD,(a0h.mk b265 y264.1.vG y264.1.qE))))) else some (.ex (x245.2.1,x245.2.2.1,x245.2.2.2)):Option (Fl (Int×(List (List o9))×(List (List Int))×a0h) ((List (List o9))×(List (List Int))×a0h)))) (n_.Max,w_.qD,w_.jD,(a0h.mk true [] []))).bind fun r266=>some (r266.2.2,(o8.mk r266.1 r266.2.1))
def F_8 (w_:o8) (n_:o7):Option (a0h×o8):=lim fun n=>c9f n w_ n_
@[irreducible] def d6k:List MOp:=rdc (cG Tryz.prog Tryz.f105 [(3,⟨[],[.k 14 9,.k 15 9],[]⟩),(11,⟨[],[.c 8 0 [1000,20000,20001] [12224,12225],.c 9 0 [1000,12224,12225] [12288,12289]],[]⟩),(14,⟨[],[.k 0 1],[]⟩),(18,⟨[],[.c 6 0 [1000,39000,39001] [13376,13377]],[]⟩),(26,⟨[],[.c 6 0 [1000,20000,20001] [15552,15553],.c 8 0 [1000,15552,15553] [15680,15681]],[]⟩)] 19 3 5)
@[irreducible] def d6j:List MOp:=rdc (cG Tryz.prog Tryz.f105 [(3,⟨[],[.k 14 9,.k 15 9],[]⟩),(11,⟨[],[.c 8 0 [1000,20000,20001] [12224,12225],.c 9 0 [1000,12224,12225] [12288,12289]],[]⟩),(14,⟨[],[.k 0 1],[]⟩),(18,⟨[],[.c 6 0 [1000,39000,39001] [13376,13377]],[]⟩),(26,⟨[],[.c 6 0 [1000,20000,20001] [15552,15553],.c 8 0 [1000,15552,15553] [15680,15681]],[]⟩)] 27 3 7)
def a_8:List (Nat×RN):=[(3,⟨[],[.k 14 9,.k 15 9],[]⟩),(4,⟨[.gc [0,4]],[],[]⟩),(10,⟨[.gc [0,3,4,6,7]],[],[]⟩),(11,⟨[],[.c 8 0 [1000,20000,20001] [12224,12225],.c 9 0 [1000,12224,12225] [12288,12289]],[]⟩),(14,⟨[],[.k 0 1],[]⟩),(17,⟨[.gc [0,3,4,8,9,88,89]],[],[]⟩),(18,⟨[],[.c 6 0 [1000,39000,39001] [13376,13377]],[.n 6 (.ownC 1000 0 39000 1 none),.n 6 (.ownC 1000 1 39001 1 none),.n 6 (.rwn 39001 1)]⟩),(19,⟨[.gc [0,3,4,8,9,10,88,89]],[],[.u 3 5 d6k]⟩),(22,⟨[.gc [0,3,4,124,125,126,127]],[],[]⟩),(26,⟨[],[.c 6 0 [1000,20000,20001] [15552,15553],.c 8 0 [1000,15552,15553] [15680,15681]],[]⟩),(27,⟨[.gc [0,3,4,11,12,124,125,126,127]],[],[.u 3 7 d6j]⟩)]
@[irreducible] def c6q:MC:=rdc (cK Tryz.prog Tryz.f105 a_8 [] 9)
@[irreducible] def d10:MC:=rdc (cK Tryz.prog Tryz.f105 a_8 [(9,c6q)] 16)
@[irreducible] def d88:MC:=rdc (cK Tryz.prog Tryz.f105 a_8 [(9,c6q),(16,d10)] 24)
def f9a:MC:=rdc (cT Tryz.prog Tryz.f105 a_8 [(9,c6q),(16,d10),(24,d88)])
theorem g37 {n:Nat} (ih_ref06_writer_out:∀{w_:o8} {n_:o7} {y:a0h×o8},c9f n w_ n_=some y→l9 Tryz.prog 105 [.ptr 1000 0,o7.v n_] [(1000,.cells [.osl 1001 1 0 w_.qD.length,.osl 1002 1 0 w_.jD.length]),(1001,.arr 1 (w_.qD.map (slV o9.v))),(1002,.rws 1 (w_.jD.map (List.map (V.int .i64))))] (fun r H=>r=a0h.v y.1∧H=[(1000,.cells [.osl 1700 1 0 y.2.qD.length,.osl 1701 1 0 y.2.jD.length]),(1700,.arr 1 (y.2.qD.map (slV o9.v))),(1701,.rws 1 (y.2.jD.map (List.map (V.int .i64))))])) (w_:o8) (n_:o7) {Q:a0h×o8→Prop} {Q':V→Heap→Prop} (h:Ok (c9f (n+1) w_ n_) Q) (hQ:∀z,Q z→Q' (a0h.v z.1) [(1000,.cells [.osl 1700 1 0 z.2.qD.length,.osl 1701 1 0 z.2.jD.length]),(1700,.arr 1 (z.2.qD.map (slV o9.v))),(1701,.rws 1 (z.2.jD.map (List.map (V.int .i64))))]):l9 Tryz.prog 105 [.ptr 1000 0,o7.v n_] [(1000,.cells [.osl 1001 1 0 w_.qD.length,.osl 1002 1 0 w_.jD.length]),(1001,.arr 1 (w_.qD.map (slV o9.v))),(1002,.rws 1 (w_.jD.map (List.map (V.int .i64))))] Q':=by
 refine a0s f9a [.ownC 1000 0 1700 1 none,.ownC 1000 1 1701 1 none,.rwn 1701 1,.fzc 4] [1000,1700,1701] [.c 4 (some 3)] Tryz.func105 fun M=>?_
 simp only [c9f] at h
 unfold f9a
 replace h:=tY h
 refine tB ?_
 repeat' (first
 | (exact tZ)
 | ((first|refine a6y h ?_|refine a1i h ?_|refine fork h ?_ ?_|refine a1j h ?_ ?_)<;>clear h<;>intro hc h)
 | (obtain ⟨y,hy,h⟩:=h;have hw:=p9 1701 12225 (p9 1700 12224 (ih_ref06_writer_out hy));replace hw:=tY hw;(first|refine M.sC hw ?_|refine M.sD hw ?_);clear hw hy;refine tB ?_)
 | (obtain ⟨y,hy,h⟩:=h;have hw:=p9 1701 12289 (p9 1700 12288 (p9 1002 12225 (p9 1001 12224 (e9l.c.w hy))));replace hw:=tY hw;(first|refine M.sC hw ?_|refine M.sD hw ?_);clear hw hy;refine tB ?_)
 | (obtain ⟨y,hy,h⟩:=h;have hw:=p9 1701 12225 (p9 1700 12224 (p9 1002 20001 (p9 1001 20000 (ih_ref06_writer_out hy))));replace hw:=tY hw;(first|refine M.sC hw ?_|refine M.sD hw ?_);clear hw hy;refine tB ?_)
 | (obtain ⟨y,hy,h⟩:=h;have hw:=p9 1701 13377 (p9 1700 13376 (p9 1002 39001 (p9 1001 39000 (ih_ref06_writer_out hy))));replace hw:=tY hw;(first|refine M.sC hw ?_|refine M.sD hw ?_);clear hw hy;refine tB ?_)
 | (obtain ⟨y,hy,h⟩:=h;have hw:=p9 1701 15553 (p9 1700 15552 (ih_ref06_writer_out hy));replace hw:=tY hw;(first|refine M.sC hw ?_|refine M.sD hw ?_);clear hw hy;refine tB ?_)
 | (obtain ⟨y,hy,h⟩:=h;have hw:=p9 1701 15681 (p9 1700 15680 (p9 1002 15553 (p9 1001 15552 (e9l.c.w hy))));replace hw:=tY hw;(first|refine M.sC hw ?_|refine M.sD hw ?_);clear hw hy;refine tB ?_)
 | (obtain ⟨y,hy,h⟩:=h;have hw:=p9 1701 15553 (p9 1700 15552 (p9 1002 20001 (p9 1001 20000 (ih_ref06_writer_out hy))));replace hw:=tY hw;(first|refine M.sC hw ?_|refine M.sD hw ?_);clear hw hy;refine tB ?_)
 | (refine M.wh1 (b:=c6q) [0,3,4,6] [4,3] (fun x=>[(7,.int .i64 x.1)]) (fun x=>[.o 1000 (.cells [.osl 20000 1 0 x.2.1.length,.osl 20001 1 0 x.2.2.1.length]),.o 20000 (.arr 1 (x.2.1.map (slV o9.v))),.o 20001 (.rws 1 (x.2.2.1.map (List.map (V.int .i64)))),.o 6 (.cells [.bool x.2.2.2.jH,.sl (x.2.2.2.vG.map (V.int .i64)),.sl (x.2.2.2.qE.map (V.int .i64))])]) [.gc [0,3,4,6,7],.ownC 1000 0 20000 1 none,.ownC 1000 1 20001 1 none,.rwn 20001 1] h ?_ ?_<;>first
 | (clear h;intro x Qn K hK1 h;unfold c6q;replace h:=tY h;refine tB ?_)
  |(clear h;(try refine tB ?_);exact tU0;done))
 | (refine M.gv1 (ms:=d6k) 90 [88,89] h ?_ ?_<;>first
 | (clear h;intro K hK2;unfold d6k;refine tB ?_)
 | (clear h;intro b h;replace h:=tY h;refine tB ?_))
 | (refine M.wh1 (b:=d10) [0,3,4,8] [4,3] (fun x=>[(9,.int .i64 x.1)]) (fun x=>[.o 1000 (.cells [.osl 20000 1 0 x.2.1.length,.osl 20001 1 0 x.2.2.1.length]),.o 20000 (.arr 1 (x.2.1.map (slV o9.v))),.o 20001 (.rws 1 (x.2.2.1.map (List.map (V.int .i64)))),.o 8 (.cells [.bool x.2.2.2.1,.osl 4129 1 0 x.2.2.2.2.1.length,.osl 4130 1 0 x.2.2.2.2.2.length]),.o 4129 (.arr 1 (x.2.2.2.2.1.map (V.int .i64))),.o 4130 (.arr 1 (x.2.2.2.2.2.map (V.int .i64)))]) [.gc [0,3,4,8,9],.ownC 1000 0 20000 1 none,.ownC 1000 1 20001 1 none,.rwn 20001 1,.ownC 8 1 4129 1 none,.ownC 8 2 4130 1 none] h ?_ ?_<;>first
 | (clear h;intro x Qn K hK3 h;unfold d10;replace h:=tY h;refine tB ?_)
  |(clear h;(try refine tB ?_);exact tU0;done))
 | (refine M.gv1 (ms:=d6j) 128 [124,125,126,127] h ?_ ?_<;>first
 | (clear h;intro K hK4;unfold d6j;refine tB ?_)
 | (clear h;intro b h;replace h:=tY h;refine tB ?_))
 | (refine M.wh1 (b:=d88) [0,3,4,11] [4,3] (fun x=>[(12,.int .i64 x.1)]) (fun x=>[.o 1000 (.cells [.osl 20000 1 0 x.2.1.length,.osl 20001 1 0 x.2.2.1.length]),.o 20000 (.arr 1 (x.2.1.map (slV o9.v))),.o 20001 (.rws 1 (x.2.2.1.map (List.map (V.int .i64)))),.o 11 (.cells [.bool x.2.2.2.jH,.sl (x.2.2.2.vG.map (V.int .i64)),.sl (x.2.2.2.qE.map (V.int .i64))])]) [.gc [0,3,4,11,12],.ownC 1000 0 20000 1 none,.ownC 1000 1 20001 1 none,.rwn 20001 1] h ?_ ?_<;>first
 | (clear h;intro x Qn K hK5 h;unfold d88;replace h:=tY h;refine tB ?_)
  |(clear h;(try refine tB ?_);exact tU0;done))
 | ((first|refine hK1 _ ?_|refine hK3 _ ?_|refine hK5 _ ?_);(try refine tB ?_);refine ⟨_,h,?_⟩;exact tU0;done)
 | ((first|refine hK2 _ ?_|refine hK4 _ ?_);exact tU;done)
 | (refine a9i (fun hc=>?_) (fun hc=>?_))
 | (refine tE ?_;(first|rw [M.lok_compU]|rw [M.lokD_compU]);refine tB ?_)
 | (refine tA ?_)
 | fail)
theorem g0n:∀n,(∀{w_:o8} {n_:o7} {y:a0h×o8},c9f n w_ n_=some y→l9 Tryz.prog 105 [.ptr 1000 0,o7.v n_] [(1000,.cells [.osl 1001 1 0 w_.qD.length,.osl 1002 1 0 w_.jD.length]),(1001,.arr 1 (w_.qD.map (slV o9.v))),(1002,.rws 1 (w_.jD.map (List.map (V.int .i64))))] (fun r H=>r=a0h.v y.1∧H=[(1000,.cells [.osl 1700 1 0 y.2.qD.length,.osl 1701 1 0 y.2.jD.length]),(1700,.arr 1 (y.2.qD.map (slV o9.v))),(1701,.rws 1 (y.2.jD.map (List.map (V.int .i64))))]))
 | 0=>fun hy=>(by simp only [c9f] at hy;cases hy)
 | n+1=>by
  have ih_ref06_writer_out:=@g0n n
  exact fun hy=>g37 ih_ref06_writer_out _ _ (Q:=(·=_)) ⟨_,hy,rfl⟩ fun|_,rfl=>⟨rfl,rfl⟩
theorem W_8:∀{w_:o8} {n_:o7} {y:a0h×o8},F_8 w_ n_=some y→l9 Tryz.prog 105 [.ptr 1000 0,o7.v n_] [(1000,.cells [.osl 1001 1 0 w_.qD.length,.osl 1002 1 0 w_.jD.length]),(1001,.arr 1 (w_.qD.map (slV o9.v))),(1002,.rws 1 (w_.jD.map (List.map (V.int .i64))))] (fun r H=>r=a0h.v y.1∧H=[(1000,.cells [.osl 1700 1 0 y.2.qD.length,.osl 1701 1 0 y.2.jD.length]),(1700,.arr 1 (y.2.qD.map (slV o9.v))),(1701,.rws 1 (y.2.jD.map (List.map (V.int .i64))))]):=fun hy=>by
 obtain ⟨n,hn⟩:=a0n hy
 exact (g0n n) hn
instance c1k {w_:o8} {n_:o7}:WI (F_8 w_ n_) Tryz.prog 105 [.ptr 1000 0,o7.v n_] [(1000,.cells [.osl 1001 1 0 w_.qD.length,.osl 1002 1 0 w_.jD.length]),(1001,.arr 1 (w_.qD.map (slV o9.v))),(1002,.rws 1 (w_.jD.map (List.map (V.int .i64))))] (fun y=>a0h.v y.1) (fun y=>[(1000,.cells [.osl 1700 1 0 y.2.qD.length,.osl 1701 1 0 y.2.jD.length]),(1700,.arr 1 (y.2.qD.map (slV o9.v))),(1701,.rws 1 (y.2.jD.map (List.map (V.int .i64))))]):=⟨fun Q Q' h hQ=>by obtain ⟨y,hy,hq⟩:=h;exact (W_8 hy).mono fun r H' e=>by rw [e.1,e.2];exact hQ y hq⟩
@[go_sem] def f0y (l_:List o9) (c_:UInt8) (x29:Int):Option (Fl Int (Sum Unit Bool)) :=
 bif decide (x29<(l_.length:Int)) then chk (inb x29 l_.length) (jn (α:=Bool) (bif decide ((((l_.getD (x29).toNat default).Low).toNat:Int)≤(c_.toNat:Int)) then chk (inb x29 l_.length) (some (decide ((c_.toNat:Int)≤(((l_.getD (x29).toNat default).High).toNat:Int)))) else some false) fun j37=>bif j37 then some (.ex (.inr true)) else chk (a0c (x29+1)) (some (.nx (x29+1)))) else some (.ex (.inl ()))
def e9v (l_:List o9) (c_:UInt8):Option Bool :=
 (loop (f0y l_ c_) 0).bind fun r38=>Sum.elim (fun u39=>some false) (fun u40=>some u40) r38
def f9t:List (Nat×RN):=[(4,⟨[],[],[.w 8 15 1520408]⟩)]
@[irreducible] def e5w:MC:=rdc (cK Tryz.prog Tryz.f152 f9t [] 2)
instance e74 {m:List MOp}:GI (gjt 1520408 m) [0,1,5] [] (fun y:Bool=>[(27,.bool y)]) (fun y=>[]):=⟨⟩
instance:LI e5w 0 0 [0,1] [] (fun y:Int=>[(5,.int .i64 y)]) (fun y=>[]) []:=⟨⟩
instance g4d {l_:List o9} {c_:UInt8}:WJ (e9v l_ c_) 152 [.sl (l_.map o9.v),a0a c_] .bool:=wX Tryz.func152 f9t [(2,e5w)] (h:=fun _ _ h hQ M=>by unfold e9v at h;exact tX)
@[go_sem] def f1n (w_:o8) (from_:List Int) (c_:UInt8) (x22:Int×(List Bool)):Option (Fl (Int×(List Bool)) (List Bool)) :=
 bif decide (x22.1<(from_.length:Int)) then jn (α:=List Bool) (chk (inb x22.1 from_.length) (chk (inb (from_.getD (x22.1).toNat default) w_.qD.length) ((e9v (w_.qD.getD ((from_.getD (x22.1).toNat default)).toNat default) c_).bind fun y30=>bif y30 then chk (inb x22.1 from_.length) (chk (inb (from_.getD (x22.1).toNat default) x22.2.length) (some (x22.2.set (((from_.getD (x22.1).toNat default)).toNat) true))) else some x22.2))) fun j28=>chk (a0c (x22.1+1)) (some (.nx ((x22.1+1),j28))) else some (.ex x22.2)
@[go_sem] def f0x (r31:List Bool) (x43:Int×(List Int)):Option (Fl (Int×(List Int)) (List Int)) :=
 bif decide (x43.1<(r31.length:Int)) then jn (α:=List Int) (chk (inb x43.1 r31.length) (bif r31.getD ((x43.1).toNat) default then chk (room (x43.2.length+[x43.1].length) 8) (some (x43.2++[x43.1])) else some x43.2)) fun j45=>chk (a0c (x43.1+1)) (some (.nx ((x43.1+1),j45))) else some (.ex x43.2)
def f01 (w_:o8) (from_:List Int) (c_:UInt8):Option (List Int) :=
 chk (a98 (w_.qD.length:Int) (w_.qD.length:Int) 1) ((loop (f1n w_ from_ c_) (0,List.replicate ((w_.qD.length:Int)).toNat false)).bind fun r31=>(loop (f0x r31) (0,[])).bind fun r46=>some r46)
def e9g:List (Nat×RN):=[(6,⟨[.gc [0,1,2,7,8]],[],[]⟩),(7,⟨[],[.k 0 1],[]⟩),(12,⟨[.gc [7,9,10]],[],[]⟩)]
@[irreducible] def c6p:MC:=rdc (cK Tryz.prog Tryz.f132 e9g [] 10000004)
@[irreducible] def d1o:MC:=rdc (cK Tryz.prog Tryz.f132 e9g [(10000004,c6p)] 3)
@[irreducible] def d87:MC:=rdc (cK Tryz.prog Tryz.f132 e9g [(10000004,c6p),(3,d1o)] 10000010)
@[irreducible] def e5v:MC:=rdc (cK Tryz.prog Tryz.f132 e9g [(10000004,c6p),(3,d1o),(10000010,d87)] 9)
instance:LI c6p 0 0 [0,1,2,8] [1000] (fun y:List Bool=>[(7,.osl 16 1 0 y.length)]) (fun y=>[.o 16 (.arr 1 (y.map V.bool))]) []:=⟨⟩
instance:LI d1o 0 0 [0,1,2] [1000] (fun y:Int×(List Bool)=>[(7,.osl 16 1 0 y.2.length),(8,.int .i64 y.1)]) (fun y=>[.o 16 (.arr 1 (y.2.map V.bool))]) []:=⟨⟩
instance:LI d87 0 0 [7,10] [16,1000] (fun y:List Int=>[(9,.osl 2009 1 0 y.length)]) (fun y=>[.o 2009 (.arr 1 (y.map (V.int .i64)))]) [.gc [7,9,10],.renq 2009 902009,.acc 9 2009 1]:=⟨⟩
instance:LI e5v 0 0 [7] [16,1000] (fun y:Int×(List Int)=>[(9,.osl 2009 1 0 y.2.length),(10,.int .i64 y.1)]) (fun y=>[.o 2009 (.arr 1 (y.2.map (V.int .i64)))]) [.gc [7,9,10],.acc 9 2009 1]:=⟨⟩
instance g4r {w_:o8} {from_:List Int} {c_:UInt8}:WI (f01 w_ from_ c_) Tryz.prog 132 [.ptr 1000 0,.sl (from_.map (V.int .i64)),a0a c_] [(1000,.cells [.sl (w_.qD.map (slV o9.v)),.sl (w_.jD.map (slV (V.int .i64)))])] (fun z=>.sl (z.map (V.int .i64))) (fun z=>[(1000,.cells [.sl (w_.qD.map (slV o9.v)),.sl (w_.jD.map (slV (V.int .i64)))])]):=wX Tryz.func132 e9g [(10000004,c6p),(3,d1o),(10000010,d87),(9,e5v)] [.fz 6] [1000] (h:=fun _ _ h hQ M=>by unfold f01 at h;exact tX)
@[go_sem] def f1z (vH:a0h) (x7:Int×(List Bool)):Option (Fl (Int×(List Bool)) (List Bool)) :=
 bif decide (x7.1<(vH.qE.length:Int)) then chk (inb x7.1 vH.qE.length) (chk (inb (vH.qE.getD (x7.1).toNat default) x7.2.length) (chk (a0c (x7.1+1)) (some (.nx ((x7.1+1),x7.2.set (((vH.qE.getD (x7.1).toNat default)).toNat) true))))) else some (.ex x7.2)
@[go_sem] def f1y (w_:o8) (x1029:Int×(List (List a0k))×(List Bool)×(List (List Int))×(List (Str×Int))) (x1340:Int×(List Int)):Option (Fl (Int×(List Int)) (List Int)) :=
 chk (inb x1029.1 x1029.2.2.2.1.length) (bif decide (x1340.1<((x1029.2.2.2.1.getD ((x1029.1).toNat) default).length:Int)) then chk (inb x1029.1 x1029.2.2.2.1.length) (chk (inb x1340.1 (x1029.2.2.2.1.getD ((x1029.1).toNat) default).length) (chk (inb ((x1029.2.2.2.1.getD ((x1029.1).toNat) default).getD (x1340.1).toNat default) w_.jD.length) (chk (room (x1340.2.length+(w_.jD.getD (((x1029.2.2.2.1.getD ((x1029.1).toNat) default).getD (x1340.1).toNat default)).toNat default).length) 8) (chk (a0c (x1340.1+1)) (some (.nx ((x1340.1+1),(x1340.2++(w_.jD.getD (((x1029.2.2.2.1.getD ((x1029.1).toNat) default).getD (x1340.1).toNat default)).toNat default))))))))) else some (.ex x1340.2))
@[go_sem] def f1x (r8:List Bool) (y1465:List Int) (x1509:Bool×Int):Option (Fl (Bool×Int) Bool) :=
 bif decide (x1509.2<(y1465.length:Int)) then jn (α:=Bool) (bif x1509.1 then some true else chk (inb x1509.2 y1465.length) (chk (inb (y1465.getD (x1509.2).toNat default) r8.length) (some (r8.getD (((y1465.getD (x1509.2).toNat default)).toNat) default)))) fun j1513=>chk (a0c (x1509.2+1)) (some (.nx (j1513,(x1509.2+1)))) else some (.ex x1509.1)
@[go_sem] def f1m (w_:o8) (r8:List Bool) (y10:List Int) (x1029:Int×(List (List a0k))×(List Bool)×(List (List Int))×(List (Str×Int))) (j1337:List Int) (x1404:Int×(List (List a0k))×(List Bool)×(List (List Int))×(List (Str×Int))):Option (Fl (Int×(List (List a0k))×(List Bool)×(List (List Int))×(List (Str×Int))) (Sum ((List (List a0k))×(List Bool)×(List (List Int))×(List (Str×Int))) (u6×Bool))) :=
 chk (a0c (x1404.1+1)) (bif decide ((x1404.1+1)<(y10.length:Int)) then jn (α:=Fl ((List (List a0k))×(List Bool)×(List (List Int))×(List (Str×Int))) (u6×Bool)) (chk (inb x1404.1 y10.length) ((f01 w_ j1337 (u8 (y10.getD (x1404.1).toNat default))).bind fun y1465=>bif decide ((y1465.length:Int)=0) then some (.nx (x1404.2.1,x1404.2.2.1,x1404.2.2.2.1,x1404.2.2.2.2)) else (e2u y1465).bind fun y1467=>jn (α:=Fl (Int×(List (List a0k))×(List Bool)×(List (List Int))×(List (Str×Int))) (u6×Bool)) (bif (!((b5x y1467 x1404.2.2.2.2).isSome)) then bif decide ((x1404.2.2.2.1.length:Int)=2000) then some (.ex ((u6.mk [] []),false)) else (e2u y1465).bind fun y1492=>chk (room (x1404.2.2.2.1.length+[y1465].length) 24) ((loop (f1x r8 y1465) (false,0)).bind fun r1514=>chk (a9v x1404.2.1.length 24) (chk (room (x1404.2.2.1.length+[r1514].length) 1) (some (.nx ((x1404.2.2.2.1.length:Int),(x1404.2.1++[[]]),(x1404.2.2.1++[r1514]),(x1404.2.2.2.1++[y1465]),c5l y1492 (x1404.2.2.2.1.length:Int) x1404.2.2.2.2))))) else some (.nx (((b5x y1467 x1404.2.2.2.2).getD 0),x1404.2.1,x1404.2.2.1,x1404.2.2.2.1,x1404.2.2.2.2))) fun o=>o.elim (fun j1490=>chk (inb x1029.1 j1490.2.1.length) (chk (inb x1404.1 y10.length) (chk (a0c (x1404.1+1)) (chk (inb (x1404.1+1) y10.length) (chk (a0c ((y10.getD ((x1404.1+1)).toNat default) - 1)) (chk (room ((j1490.2.1.getD ((x1029.1).toNat) default).length+[(a0k.mk (o9.mk (u8 (y10.getD (x1404.1).toNat default)) (u8 ((y10.getD ((x1404.1+1)).toNat default) - 1))) j1490.1)].length) 16) (chk (inb x1029.1 j1490.2.1.length) (some (.nx (j1490.2.1.set ((x1029.1).toNat) (j1490.2.1.getD ((x1029.1).toNat) default++[(a0k.mk (o9.mk (u8 (y10.getD (x1404.1).toNat default)) (u8 ((y10.getD ((x1404.1+1)).toNat default) - 1))) j1490.1)]),j1490.2.2.1,j1490.2.2.2.1,j1490.2.2.2.2)))))))))) (fun r1515=>some (.ex r1515)))) fun o=>o.elim (fun j1463=>chk (a0c (x1404.1+1)) (some (.nx ((x1404.1+1),j1463.1,j1463.2.1,j1463.2.2.1,j1463.2.2.2)))) (fun r1516=>some (.ex (.inr r1516))) else some (.ex (.inl (x1404.2.1,x1404.2.2.1,x1404.2.2.2.1,x1404.2.2.2.2))))
@[go_sem] def f0w (w_:o8) (vH:a0h) (r8:List Bool) (y10:List Int) (x1029:Int×(List (List a0k))×(List Bool)×(List (List Int))×(List (Str×Int))):Option (Fl (Int×(List (List a0k))×(List Bool)×(List (List Int))×(List (Str×Int))) (Sum ((List (List a0k))×(List Bool)) (u6×Bool))) :=
 bif decide (x1029.1<(x1029.2.2.2.1.length:Int)) then jn (α:=List Int) (bif decide (0<x1029.1) then (loop (f1y w_ x1029) (0,[])).bind fun r1341=>some r1341 else some vH.vG) fun j1337=>(loop (f1m w_ r8 y10 x1029 j1337) (0,x1029.2.1,x1029.2.2.1,x1029.2.2.2.1,x1029.2.2.2.2)).bind fun r1517=>Sum.elim (fun u1518=>chk (a0c (x1029.1+1)) (some (.nx ((x1029.1+1),u1518.1,u1518.2.1,u1518.2.2.1,u1518.2.2.2)))) (fun u1519=>some (.ex (.inr u1519))) r1517 else some (.ex (.inl (x1029.2.1,x1029.2.2.1)))
def F_z (w_:o8) (vH:a0h):Option (u6×Bool) := chk (a98 (w_.qD.length:Int) (w_.qD.length:Int) 1) ((loop (f1z vH) (0,List.replicate ((w_.qD.length:Int)).toNat false)).bind fun r8=>(f02 w_.qD).bind fun y10=>(loop (f0w w_ vH r8 y10) (0,([[]]:List (List a0k)),[vH.jH],[[]],[])).bind fun r1520=>Sum.elim (fun u1521=>some ((u6.mk u1521.1 u1521.2),true)) (fun u1522=>some u1522) r1520)
def a_z:List (Nat×RN):=[(3,⟨[],[.k 0 9],[.n 1 (.rwn 23 3)]⟩),(4,⟨[.gc [0,3,4,6,7,8,136,137,138,139,140,141,142]],[],[]⟩),(7,⟨[.gc [0,3,4,6,7,8,9,10,136,137,138,139,140,141,142]],[],[]⟩),(15,⟨[],[.k 0 1],[]⟩),(18,⟨[.gc [0,3,4,6,7,8,9,11,12,13,14,136,137,138,139,140,141,142]],[],[]⟩),(23,⟨[],[.c 7 0 [1000] []],[]⟩),(24,⟨[.gc [0,3,4,6,7,8,9,11,12,13,15,16,136,137,138,139,140,141,142]],[],[]⟩),(27,⟨[.gc [0,3,4,6,7,8,9,11,12,13,15,16,136,137,138,139,140,141,142]],[],[]⟩),(28,⟨[.gc [4]],[],[]⟩),(31,⟨[.gc [0,3,4,6,7,8,9,11,12,13,15,16,17,136,137,138,139,140,141,142]],[],[]⟩),(36,⟨[],[],[.w 2 9 1063602]⟩),(37,⟨[],[.k 2 9,.k 3 9],[]⟩),(38,⟨[],[.k 7 9,.k 26 9],[]⟩)]
@[irreducible] def b7k:MC:=rdc (cK Tryz.prog Tryz.f106 a_z [] 6)
@[irreducible] def b8s:MC:=rdc (cK Tryz.prog Tryz.f106 a_z [(6,b7k)] 17)
@[irreducible] def c0o:MC:=rdc (cK Tryz.prog Tryz.f106 a_z [(6,b7k),(17,b8s)] 34)
@[irreducible] def c4b:MC:=rdc (cK Tryz.prog Tryz.f106 a_z [(6,b7k),(17,b8s),(34,c0o)] 10000038)
@[irreducible] def c6o:MC:=rdc (cK Tryz.prog Tryz.f106 a_z [(6,b7k),(17,b8s),(34,c0o),(10000038,c4b)] 10000022)
@[irreducible] def d1n:MC:=rdc (cK Tryz.prog Tryz.f106 a_z [(6,b7k),(17,b8s),(34,c0o),(10000038,c4b),(10000022,c6o)] 21)
@[irreducible] def d86:MC:=rdc (cK Tryz.prog Tryz.f106 a_z [(6,b7k),(17,b8s),(34,c0o),(10000038,c4b),(10000022,c6o),(21,d1n)] 10000020)
@[irreducible] def e5u:MC:=rdc (cK Tryz.prog Tryz.f106 a_z [(6,b7k),(17,b8s),(34,c0o),(10000038,c4b),(10000022,c6o),(21,d1n),(10000020,d86)] 11)
instance:LI b7k 0 0 [0,3,4,6,7,8] [1000,8,23,26,22,21,4,3] (fun y:Int×(List Bool)=>[(9,.osl 33 1 0 y.2.length),(10,.int .i64 y.1)]) (fun y=>[.o 33 (.arr 1 (y.2.map V.bool))]) []:=⟨⟩
instance:LI b8s 0 0 [0,3,4,6,7,8,9,11,12] [1000,33,8,4128,4129,2007,21,4,3] (fun y:Int×(List Int)=>[(13,.osl 2013 1 0 y.2.length),(14,.int .i64 y.1)]) (fun y=>[.o 2013 (.arr 1 (y.2.map (V.int .i64)))]) [.gc [0,3,4,6,7,8,9,11,12,13,14],.acc 13 2013 1]:=⟨⟩
instance e77 {m:List MOp}:GI (gjt 1063602 m) [0,3,4,6,7,8,9,11,12,13,15,16,17,19,20] [1000,33,8,4128,4129,127,21,4,3] (fun y:Bool=>[(143,.bool y)]) (fun y=>[]):=⟨⟩
instance:LI c0o 0 0 [0,3,4,6,7,8,9,11,12,13,15,16,17] [1000,33,8,4128,4129,127,21,4,3] (fun y:Bool×Int=>[(19,.bool y.1),(20,.int .i64 y.2)]) (fun y=>[]) []:=⟨⟩
instance:LI c4b 0 0 [0,3,4,6,8,9,11,12,13,15] [1000,33,8,4,3] (fun y:Int×(List (List a0k))×(List Bool)×(List (List Int))×(List (Str×Int))=>[(7,.osl 2007 1 0 y.2.2.2.1.length),(17,.int .i64 y.1)]) (fun y=>[.p 8 0 [.osl 4128 1 0 y.2.1.length],.p 8 1 [.osl 4129 1 0 y.2.2.1.length],.o 4128 (.rws 3 (y.2.1.map (List.map a0k.v))),.o 4129 (.arr 1 (y.2.2.1.map V.bool)),.o 2007 (.arr 1 (y.2.2.2.1.map (slV (V.int .i64)))),.o 21 (.map .str (y.2.2.2.2.map (kvV V.str (V.int .i64))))]) [.gc [0,3,4,6,7,8,9,11,12,13,15,17],.renq 2007 902007,.acc 7 2007 1,.ownC 8 0 4128 1 none,.rwn 4128 3,.ownC 8 1 4129 1 none]:=⟨⟩
instance:LI c6o 0 0 [0,3,4,6,8,9,11,12,13,15] [1000,33,8,4,3] (fun y:(List (List a0k))×(List Bool)×(List (List Int))×(List (Str×Int))=>[(7,.osl 2007 1 0 y.2.2.1.length)]) (fun y=>[.p 8 0 [.osl 4128 1 0 y.1.length],.p 8 1 [.osl 4129 1 0 y.2.1.length],.o 4128 (.rws 3 (y.1.map (List.map a0k.v))),.o 4129 (.arr 1 (y.2.1.map V.bool)),.o 2007 (.arr 1 (y.2.2.1.map (slV (V.int .i64)))),.o 21 (.map .str (y.2.2.2.map (kvV V.str (V.int .i64))))]) []:=⟨⟩
instance:LI d1n 0 0 [0,3,4,6,8,9,11,12,13] [1000,33,8,4,3] (fun y:Int×(List (List a0k))×(List Bool)×(List (List Int))×(List (Str×Int))=>[(7,.osl 2007 1 0 y.2.2.2.1.length),(15,.int .i64 y.1)]) (fun y=>[.p 8 0 [.osl 4128 1 0 y.2.1.length],.p 8 1 [.osl 4129 1 0 y.2.2.1.length],.o 4128 (.rws 3 (y.2.1.map (List.map a0k.v))),.o 4129 (.arr 1 (y.2.2.1.map V.bool)),.o 2007 (.arr 1 (y.2.2.2.1.map (slV (V.int .i64)))),.o 21 (.map .str (y.2.2.2.2.map (kvV V.str (V.int .i64))))]) []:=⟨⟩
instance:LI d86 0 0 [0,3,4,6,7,8,9,11,12] [1000,33,8,4128,4129,2007,21,4,3] (fun y:List Int=>[(13,.sl (y.map (V.int .i64)))]) (fun y=>[]) [.fz 13]:=⟨⟩
instance:LI e5u 0 0 [0,3,4,6,8,9,11] [1000,33,4,3] (fun y:Int×(List (List a0k))×(List Bool)×(List (List Int))×(List (Str×Int))=>[(7,.osl 2007 1 0 y.2.2.2.1.length),(12,.int .i64 y.1)]) (fun y=>[.o 8 (.cells [.osl 4128 1 0 y.2.1.length,.osl 4129 1 0 y.2.2.1.length]),.o 4128 (.rws 3 (y.2.1.map (List.map a0k.v))),.o 4129 (.arr 1 (y.2.2.1.map V.bool)),.o 2007 (.arr 1 (y.2.2.2.1.map (slV (V.int .i64)))),.o 21 (.map .str (y.2.2.2.2.map (kvV V.str (V.int .i64))))]) [.gc [0,3,4,6,7,8,9,11,12],.renq 2007 902007,.acc 7 2007 1,.ownC 8 0 4128 1 none,.rwn 4128 3,.ownC 8 1 4129 1 none]:=⟨⟩
instance g5f {w_:o8} {vH:a0h}:WI (F_z w_ vH) Tryz.prog 106 [.ptr 1000 0,a0h.v vH] [(1000,.cells [.sl (w_.qD.map (slV o9.v)),.sl (w_.jD.map (slV (V.int .i64)))])] (fun z=>.tup [u6.v z.1,.bool z.2]) (fun z=>[(1000,.cells [.sl (w_.qD.map (slV o9.v)),.sl (w_.jD.map (slV (V.int .i64)))])]):=wX Tryz.func106 a_z [(6,b7k),(17,b8s),(34,c0o),(10000038,c4b),(10000022,c6o),(21,d1n),(10000020,d86),(11,e5u)] [.fzc 4] [1000] (h:=fun _ _ h hQ M=>by unfold F_z at h;exact tX)
def e2n (n_:o7):Option (u6×Int) :=
 (e0z n_).bind fun y4=>bif (!decide (y4=0)) then some ((u6.mk [] []),y4) else (F_f n_).bind fun y8=>bif decide (600<y8) then some ((u6.mk [] []),3) else (F_8 (o8.mk ([]:List (List o9)) ([]:List (List Int))) n_).bind fun y10=>(F_z (o8.mk y10.2.qD y10.2.jD) y10.1).bind fun y12=>bif (!y12.2) then some ((u6.mk [] []),3) else (e3e y12.1).bind fun y14=>some (y14,0)
instance g3x {n_:o7}:WJ (e2n n_) 72 [o7.v n_] fun z=>.tup [u6.v z.1,.int .i64 z.2]:=wX Tryz.func72 [(5,⟨[.gc [2]],[],[]⟩),(6,⟨[.gc [1,2]],[.k 0 1],[]⟩),(7,⟨[],[.c 2 0 [20,7640,7641] [9472,9473]],[.n 2 (.ownC 20 0 7640 1 none),.n 2 (.ownC 20 1 7641 1 none),.n 2 (.rwn 7641 1)]⟩),(8,⟨[],[.c 2 0 [20] []],[.n 2 (.fzc 25)]⟩),(10,⟨[.gc [2]],[],[]⟩),(11,⟨[.gc [2,7]],[],[]⟩)] [] [.fzc 2] (h:=fun _ _ h hQ M=>by have:SwA [(1000,20),(1001,7640),(1002,7641),(1700,9472),(1701,9473)]:=⟨⟩;have:SwB [(1000,20)]:=⟨⟩;unfold e2n at h;exact tX)
end
end Go.Ab