/- What the functions of this seat that lie on the laws' road compute (part LA), each for every input. By AI agents. -/
import Derived.Test.YtoojdaakeiadjaaGreatDoorProg
import Derived.KernelRfl
import Derived.Test.YtoojdaakeiadjaaGreatDoorAbFun
import Derived.Test.YtoojdaakeiadjaaGreatDoorLN
set_option linter.all false
set_option maxRecDepth 20000
set_option maxHeartbeats 2000000
namespace Go.Ab
open Go.Proofs
noncomputable section
structure d9 where
 Op:Int
 Text:Str
 Number:Int
 Print:Int
 Kids:List d9
instance:Inhabited d9:=⟨⟨default,default,default,default,[]⟩⟩
mutual
def d9.w:d9→V
 | ⟨x_Op,x_Text,x_Number,x_Print,x_Kids⟩=>.agg [.int .i64 x_Op,.str x_Text,.int .i64 x_Number,.int .u64 x_Print,.sl (d9.vs x_Kids)]
def d9.vs:List d9→List V
 | []=>[]
 | a::r=>d9.w a::d9.vs r
end
def d9.v (x:d9):V:=.agg [.int .i64 x.Op,.str x.Text,.int .i64 x.Number,.int .u64 x.Print,.sl (d9.vs x.Kids)]
theorem d9.w_eq (x:d9):x.w=x.v:=by cases x;simp only [d9.w,d9.v]
theorem d9.vs_eq:∀l:List d9,d9.vs l=l.map d9.v
 | []=>by simp only [d9.vs,w4]
 | a::r=>by simp only [d9.vs,wP,d9.w_eq,d9.vs_eq r]
theorem d9.v_eq (x:d9):x.v=.agg [.int .i64 x.Op,.str x.Text,.int .i64 x.Number,.int .u64 x.Print,.sl (x.Kids.map d9.v)]:=by
 simp only [d9.v,d9.vs_eq]
structure o9 where
 Low:UInt8
 High:UInt8
instance:Inhabited o9:=⟨⟨default,default⟩⟩
def o9.v (x:o9):V:=.agg [a0a x.Low,a0a x.High]
structure o7 where
 Op:Int
 Ranges:List o9
 Kids:List o7
 Min:Int
 Max:Int
instance:Inhabited o7:=⟨⟨default,[],[],default,default⟩⟩
mutual
def o7.w:o7→V
 | ⟨x_Op,x_Ranges,x_Kids,x_Min,x_Max⟩=>.agg [.int .i64 x_Op,.sl (x_Ranges.map o9.v),.sl (o7.vs x_Kids),.int .i64 x_Min,.int .i64 x_Max]
def o7.vs:List o7→List V
 | []=>[]
 | a::r=>o7.w a::o7.vs r
end
def o7.v (x:o7):V:=.agg [.int .i64 x.Op,.sl (x.Ranges.map o9.v),.sl (o7.vs x.Kids),.int .i64 x.Min,.int .i64 x.Max]
theorem o7.w_eq (x:o7):x.w=x.v:=by cases x;simp only [o7.w,o7.v]
theorem o7.vs_eq:∀l:List o7,o7.vs l=l.map o7.v
 | []=>by simp only [o7.vs,w4]
 | a::r=>by simp only [o7.vs,wP,o7.w_eq,o7.vs_eq r]
theorem o7.v_eq (x:o7):x.v=.agg [.int .i64 x.Op,.sl (x.Ranges.map o9.v),.sl (x.Kids.map o7.v),.int .i64 x.Min,.int .i64 x.Max]:=by
 simp only [o7.v,o7.vs_eq]
structure l6 where
 Name:Str
 Pattern:o7
 Whole:Bool
 Check:Int
 Entropy:Int
 Words:List Str
 Near:Int
instance:Inhabited l6:=⟨⟨default,default,default,default,default,default,default⟩⟩
def l6.v (x:l6):V:=.agg [.str x.Name,.int .i64 x.Pattern.Op,.sl (x.Pattern.Ranges.map o9.v),.sl (x.Pattern.Kids.map o7.v),.int .i64 x.Pattern.Min,.int .i64 x.Pattern.Max,.bool x.Whole,.int .i64 x.Check,.int .i64 x.Entropy,.sl (x.Words.map V.str),.int .i64 x.Near]
structure b0s where
 Source:Int
 Path:Str
 Time:Int
instance:Inhabited b0s:=⟨⟨default,default,default⟩⟩
def b0s.v (x:b0s):V:=.agg [.int .i64 x.Source,.str x.Path,.int .i64 x.Time]
structure o5 where
 Coding:Int
 From:Int
 To:Int
instance:Inhabited o5:=⟨⟨default,default,default⟩⟩
def o5.v (x:o5):V:=.agg [.int .i64 x.Coding,.int .i64 x.From,.int .i64 x.To]
structure l8 where
 Place:b0s
 Layers:List o5
 From:Int
 To:Int
instance:Inhabited l8:=⟨⟨default,default,default,default⟩⟩
def l8.v (x:l8):V:=.agg [.int .i64 x.Place.Source,.str x.Place.Path,.int .i64 x.Place.Time,.sl (x.Layers.map o5.v),.int .i64 x.From,.int .i64 x.To]
structure l5 where
 Kind:Int
 Fingerprint:Int
 Where:List l8
instance:Inhabited l5:=⟨⟨default,default,default⟩⟩
def l5.v (x:l5):V:=.agg [.int .i64 x.Kind,.int .u64 x.Fingerprint,.sl (x.Where.map l8.v)]
structure l7 where
 Name:Str
 When:d9
 Verdict:Int
instance:Inhabited l7:=⟨⟨default,default,default⟩⟩
def l7.v (x:l7):V:=.agg [.str x.Name,.int .i64 x.When.Op,.str x.When.Text,.int .i64 x.When.Number,.int .u64 x.When.Print,.sl (x.When.Kids.map d9.v),.int .i64 x.Verdict]
theorem dlt {a:Int}:decide (a<a)=false:=by simp
abbrev WJ {α:Type} (F:Option α) (n:Nat) (args:List V) (RV:α→V):Prop:=WI F Tryz.prog n args [] RV fun _=>[]
attribute [go_sem] a0r.b2s_set a0r.b2s_setD e0e d0o d0m d0l d0p d0n a0a beq_self_eq_true Int.cast_ofNat_Int List.take_succ_cons List.take_zero z5 xW wA b7g b8k wrap_u8 f4s d9f d9e d0k c6c d2p c3m f4t e4h e4y e4x e4v e4u e5b e5a g1z g1y g1w g1x e6m e6l e6j e6k f4v f4u ovS ovE ovU f8b c9n d2m b9j a0f a2c d0c f0d V.oids V.oidsL V.tr V.trL trE trH a03.tr true_implies false_implies xF Bool.true_eq_false dlt mpV slV Int.natCast_zero List.map_set kvV d6h c82 V.sw V.swL swN swH f2x e3m d54 e3k d52 d53 a03.sw e3n e3l e8o e8n List.set_set a0r.b2s_e a0r.b2s_eD c5q List.length_set List.length_replicate zP w6 bounds a0o x6 Option.map_none d3n e0y b87 e0w d4o d4p b2d a9l c1l
theorem e6v {n:Nat}:(inb 0 n=true)=(((0:Nat):Int)<(n:Int)):=propext (by rw [a18];omega)
attribute [go_sem] e6v
theorem e6t {b:Int} {n:Nat}:(inc 0 b n=true)=(((0:Nat):Int)≤b∧b≤(n:Int)):=propext (by rw [a7y];omega)
attribute [go_sem] e6t
attribute [go_sem] l5.v l6.v o5.v o7.v_eq b0s.v o9.v l7.v l8.v d9.v_eq
def c9d:Nat→d9→Option Int
 | 0,_=>none
 | n+1,c_ =>
 (forL (fun (k45:Int) (a46:d9) (x44:Int)=>((c9d n a46).bind fun y54=>chk (a0c (x44+y54)) (bif decide (60<(x44+y54)) then some (.ex 61) else some (.nx (x44+y54))):Option (Fl Int Int))) c_.Kids 0 1).bind fun o=>o.elim (fun x55=>some x55) (fun r56=>some r56)
def F_g (c_:d9):Option Int:=lim fun n=>c9d n c_
@[irreducible] def d1j:MC:=rdc (cK Tryz.prog Tryz.f74 [] [] 3)
def f8t:MC:=rdc (cT Tryz.prog Tryz.f74 [] [(3,d1j)])
theorem g2z {n:Nat} (ih_rule_terms:∀{c_:d9} {y:Int},c9d n c_=some y→l9 Tryz.prog 74 [d9.v c_] [] (fun r H=>r=.int .i64 y∧H=[])) (c_:d9) {Q:Int→Prop} {Q':V→Heap→Prop} (h:Ok (c9d (n+1) c_) Q) (hQ:∀z,Q z→Q' (.int .i64 z) []):l9 Tryz.prog 74 [d9.v c_] [] Q':=by
 refine a0s f8t [] [] [.t 2] Tryz.func74 fun M=>?_
 simp only [c9d] at h
 unfold f8t
 replace h:=tY h
 refine tB ?_
 repeat' (first
 | (exact tZ)
 | ((first|refine a6y h ?_|refine a1i h ?_|refine fork h ?_ ?_|refine a1j h ?_ ?_)<;>clear h<;>intro hc h)
 | (obtain ⟨y,hy,h⟩:=h;have hw:=ih_rule_terms hy;replace hw:=tY hw;(first|refine M.sC hw ?_|refine M.sD hw ?_);clear hw hy;refine tB ?_)
 | (refine M.for1 (b:=d1j) 9 [7,8] [] (fun x=>[(3,.int .i64 x)]) (fun x=>[]) [] h ?_ ?_ ?_<;>first
 | (clear h;intro k a x Qn K hK1 hkN1 ha1 h hf;have hl:=a4q (a14 (n:=8) hf.1 rfl);clear hf;have hkd:=kD hkN1;have hkB1:=kB hkN1;have hkI1:=kI (k:=k) (by omega);unfold d1j;replace h:=tY h;refine tK ha1 hkd hkN1 hkB1 hkI1 ?_)
  |(clear h;intro x K h;replace h:=And.left (And.intro h trivial);unfold d1j;replace h:=tY h;refine tB ?_)
  |(clear h;(try refine tB ?_);exact tU0;done))
 | (simp only [ha1])
 | (refine hK1 _ ?_;(try refine tB ?_);refine ⟨_,h,?_⟩;exact tU0;done)
 | (refine tE ?_;(first|rw [M.lok_compU]|rw [M.lokD_compU]);refine tB ?_)
 | (refine tA ?_)
 | fail)
theorem g0h:∀n,(∀{c_:d9} {y:Int},c9d n c_=some y→l9 Tryz.prog 74 [d9.v c_] [] (fun r H=>r=.int .i64 y∧H=[]))
 | 0=>fun hy=>(by simp only [c9d] at hy;cases hy)
 | n+1=>by
  have ih_rule_terms:=@g0h n
  exact fun hy=>g2z ih_rule_terms _ (Q:=(·=_)) ⟨_,hy,rfl⟩ fun|_,rfl=>⟨rfl,rfl⟩
theorem W_g:∀{c_:d9} {y:Int},F_g c_=some y→l9 Tryz.prog 74 [d9.v c_] [] (fun r H=>r=.int .i64 y∧H=[]):=fun hy=>by
 obtain ⟨n,hn⟩:=a0n hy
 exact (g0h n) hn
instance d3e {c_:d9}:WI (F_g c_) Tryz.prog 74 [d9.v c_] [] (fun y=>.int .i64 y) (fun y=>[]):=⟨fun Q Q' h hQ=>by obtain ⟨y,hy,hq⟩:=h;exact (W_g hy).mono fun r H' e=>by rw [e.1,e.2];exact hQ y hq⟩
def c9c:Nat→d9→Int→Option Int
 | 0,_,_=>none
 | n+1,c_,gG =>
 bif decide (gG=0) then some 1 else (foldL (fun (k30:Int) (a31:d9) (x29:Int)=>(chk (a0c (gG - 1)) ((c9c n a31 (gG - 1)).bind fun y35=>some (max x29 y35)):Option Int)) c_.Kids 0 0).bind fun x36=>chk (a0c (x36+1)) (some (x36+1))
def F_h (c_:d9) (gG:Int):Option Int:=lim fun n=>c9c n c_ gG
@[irreducible] def d1i:MC:=rdc (cK Tryz.prog Tryz.f75 [] [] 5)
def f8s:MC:=rdc (cT Tryz.prog Tryz.f75 [] [(5,d1i)])
theorem g2y {n:Nat} (ih_rule_depth:∀{c_:d9} {gG:Int} {y:Int},c9c n c_ gG=some y→l9 Tryz.prog 75 [d9.v c_,.int .i64 gG] [] (fun r H=>r=.int .i64 y∧H=[])) (c_:d9) (gG:Int) {Q:Int→Prop} {Q':V→Heap→Prop} (h:Ok (c9c (n+1) c_ gG) Q) (hQ:∀z,Q z→Q' (.int .i64 z) []):l9 Tryz.prog 75 [d9.v c_,.int .i64 gG] [] Q':=by
 refine a0s f8s [] [] [.t 4] Tryz.func75 fun M=>?_
 simp only [c9c] at h
 unfold f8s
 replace h:=tY h
 refine tB ?_
 repeat' (first
 | (exact tZ)
 | ((first|refine a6y h ?_|refine a1i h ?_|refine fork h ?_ ?_|refine a1j h ?_ ?_)<;>clear h<;>intro hc h)
 | (obtain ⟨y,hy,h⟩:=h;have hw:=ih_rule_depth hy;replace hw:=tY hw;(first|refine M.sC hw ?_|refine M.sD hw ?_);clear hw hy;refine tB ?_)
 | (refine M.fold1 (b:=d1i) 13 [1,11,12] [] (fun x=>[(5,.int .i64 x)]) (fun x=>[]) [] h ?_ ?_ ?_<;>first
 | (clear h;intro k a x Qn K hK1 hkN1 ha1 h hf;have hl:=a4q (a14 (n:=12) hf.1 rfl);clear hf;have hkd:=kD hkN1;have hkB1:=kB hkN1;have hkI1:=kI (k:=k) (by omega);unfold d1i;replace h:=tY h;refine tK ha1 hkd hkN1 hkB1 hkI1 ?_)
  |(clear h;intro x K h;replace h:=And.left (And.intro h trivial);unfold d1i;replace h:=tY h;refine tB ?_)
  |(clear h;(try refine tB ?_);exact tU0;done))
 | (simp only [ha1])
 | (refine hK1 _ ?_;(try refine tB ?_);refine ⟨_,h,?_⟩;exact tU0;done)
 | (refine tE ?_;(first|rw [M.lok_compU]|rw [M.lokD_compU]);refine tB ?_)
 | (refine tA ?_)
 | fail)
theorem g0g:∀n,(∀{c_:d9} {gG:Int} {y:Int},c9c n c_ gG=some y→l9 Tryz.prog 75 [d9.v c_,.int .i64 gG] [] (fun r H=>r=.int .i64 y∧H=[]))
 | 0=>fun hy=>(by simp only [c9c] at hy;cases hy)
 | n+1=>by
  have ih_rule_depth:=@g0g n
  exact fun hy=>g2y ih_rule_depth _ _ (Q:=(·=_)) ⟨_,hy,rfl⟩ fun|_,rfl=>⟨rfl,rfl⟩
theorem W_h:∀{c_:d9} {gG:Int} {y:Int},F_h c_ gG=some y→l9 Tryz.prog 75 [d9.v c_,.int .i64 gG] [] (fun r H=>r=.int .i64 y∧H=[]):=fun hy=>by
 obtain ⟨n,hn⟩:=a0n hy
 exact (g0g n) hn
instance d3h {c_:d9} {gG:Int}:WI (F_h c_ gG) Tryz.prog 75 [d9.v c_,.int .i64 gG] [] (fun y=>.int .i64 y) (fun y=>[]):=⟨fun Q Q' h hQ=>by obtain ⟨y,hy,hq⟩:=h;exact (W_h hy).mono fun r H' e=>by rw [e.1,e.2];exact hQ y hq⟩
@[go_sem] def f7n (k51:Int) (a52:UInt8) (x50:Unit):Option (Fl Unit Bool) :=
 grp ((decide ((a52.toNat:Int)<33)||decide (126<(a52.toNat:Int)))) fun b67=>grp ((b67||decide ((a52.toNat:Int)=34))) fun b68=>bif b68 then some (.ex false) else some (.nx ())
def e3a (s_:Str):Option Bool :=
 (forL f7n s_ 0 ()).bind fun o=>o.elim (fun x69=>grp ((decide (1≤(s_.length:Int))&&decide ((s_.length:Int)≤40))) fun b72=>some b72) (fun r70=>some r70)
def g00:List (Nat×RN):=[(4,⟨[],[],[.v 3 5,.v 7 9]⟩),(7,⟨[],[],[.v 4 7]⟩)]
@[irreducible] def e5s:MC:=rdc (cK Tryz.prog Tryz.f111 g00 [] 2)
instance:LI e5s 8 7 [0,6,7] [6] (fun y:Unit=>[]) (fun y=>[]) []:=⟨⟩
instance f6w {s_:Str}:WJ (e3a s_) 111 [.str s_] .bool:=wX Tryz.func111 g00 [(2,e5s)] (h:=fun _ _ h hQ M=>by unfold e3a at h;exact tX)
mutual
def c5g:Nat→d9→Option Bool
 | 0,_=>none
 | n+1,k_ =>
 (c3g n k_).bind fun y2=>some (!y2)
def c5f:Nat→(List d9)→Option Int
 | 0,_=>none
 | n+1,s_ =>
 (forL (fun (k31:Int) (a32:d9) (x30:Unit)=>((c5g n a32).bind fun y40=>bif y40 then some (.ex k31) else some (.nx ()):Option (Fl Unit Int))) s_ 0 ()).bind fun o=>o.elim (fun x41=>some (-1)) (fun r42=>some r42)
def c3e:Nat→(List d9)→Option Bool
 | 0,_=>none
 | n+1,s_ =>
 (c5f n s_).bind fun y2=>some (decide (0≤y2))
def c3g:Nat→d9→Option Bool
 | 0,_=>none
 | n+1,c_ =>
 jn (α:=Bool) (jn (α:=Bool) (bif decide (c_.Op=1) then some true else bif decide (c_.Op=2) then some true else some (decide (c_.Op=3))) fun j18=>bif j18 then (e3a c_.Text).bind fun y19=>grp ((y19&&decide (c_.Number=0))) fun b20=>grp ((b20&&decide (c_.Print=0))) fun b21=>grp ((b21&&decide ((c_.Kids.length:Int)=0))) fun b22=>some b22 else jn (α:=Bool) (bif decide (c_.Op=4) then some true else bif decide (c_.Op=5) then some true else bif decide (c_.Op=6) then some true else some (decide (c_.Op=8))) fun j23=>bif j23 then grp ((decide (c_.Text=[])&&decide (0≤c_.Number))) fun b24=>grp ((b24&&decide (c_.Number≤1099511627776))) fun b25=>grp ((b25&&decide (c_.Print=0))) fun b26=>grp ((b26&&decide ((c_.Kids.length:Int)=0))) fun b27=>some b27 else bif decide (c_.Op=7) then grp ((decide (c_.Text=[])&&decide (c_.Number=0))) fun b28=>grp ((b28&&decide ((c_.Kids.length:Int)=0))) fun b29=>some b29 else jn (α:=Bool) (bif decide (c_.Op=9) then some true else bif decide (c_.Op=10) then some true else some (decide (c_.Op=11))) fun j30=>bif j30 then grp ((decide (c_.Text=[])&&decide (c_.Number=0))) fun b31=>grp ((b31&&decide (c_.Print=0))) fun b32=>grp ((b32&&((decide (c_.Op=9)&&decide ((c_.Kids.length:Int)=1))||((!decide (c_.Op=9))&&decide (2≤(c_.Kids.length:Int)))))) fun b33=>some b33 else some false) fun j17=>jn (α:=Bool) (bif j17 then (c3e n c_.Kids).bind fun y37=>some (!y37) else some false) fun j38=>some j38
end
def F_i (k_:d9):Option Bool:=lim fun n=>c5g n k_
def F_t (s_:List d9):Option Int:=lim fun n=>c5f n s_
def F_o (s_:List d9):Option Bool:=lim fun n=>c3e n s_
def F_4 (c_:d9):Option Bool:=lim fun n=>c3g n c_
def f8r:MC:=rdc (cT Tryz.prog Tryz.f112 [] [])
theorem g2x {n:Nat} (ih_rule_right_1:∀{k_:d9} {y:Bool},c5g n k_=some y→l9 Tryz.prog 112 [d9.v k_] [] (fun r H=>r=.bool y∧H=[])) (ih_slices_IndexFunc_api_Term_api_Term_of_rule_right_1:∀{s_:List d9} {y:Int},c5f n s_=some y→l9 Tryz.prog 115 [.sl (s_.map d9.v),.fn (.func 112) []] [] (fun r H=>r=.int .i64 y∧H=[])) (ih_slices_ContainsFunc_api_Term_api_Term_of_rule_right_1:∀{s_:List d9} {y:Bool},c3e n s_=some y→l9 Tryz.prog 80 [.sl (s_.map d9.v),.fn (.func 112) []] [] (fun r H=>r=.bool y∧H=[])) (ih_rule_right:∀{c_:d9} {y:Bool},c3g n c_=some y→l9 Tryz.prog 76 [d9.v c_] [] (fun r H=>r=.bool y∧H=[])) (k_:d9) {Q:Bool→Prop} {Q':V→Heap→Prop} (h:Ok (c5g (n+1) k_) Q) (hQ:∀z,Q z→Q' (.bool z) []):l9 Tryz.prog 112 [d9.v k_] [] Q':=by
 refine a0s f8r [] [] [.t 2] Tryz.func112 fun M=>?_
 simp only [c5g] at h
 unfold f8r
 replace h:=tY h
 refine tB ?_
 repeat' (first
 | (exact tZ)
 | ((first|refine a6y h ?_|refine a1i h ?_|refine fork h ?_ ?_|refine a1j h ?_ ?_)<;>clear h<;>intro hc h)
 | (obtain ⟨y,hy,h⟩:=h;have hw:=ih_rule_right hy;replace hw:=tY hw;(first|refine M.sC hw ?_|refine M.sD hw ?_);clear hw hy;refine tB ?_)
 | (refine tE ?_;(first|rw [M.lok_compU]|rw [M.lokD_compU]);refine tB ?_)
 | (refine tA ?_)
 | fail)
@[irreducible] def d1h:MC:=rdc (cK Tryz.prog Tryz.f115 [] [] 2)
def f8g:MC:=rdc (cT Tryz.prog Tryz.f115 [] [(2,d1h)])
theorem g2m {n:Nat} (ih_rule_right_1:∀{k_:d9} {y:Bool},c5g n k_=some y→l9 Tryz.prog 112 [d9.v k_] [] (fun r H=>r=.bool y∧H=[])) (ih_slices_IndexFunc_api_Term_api_Term_of_rule_right_1:∀{s_:List d9} {y:Int},c5f n s_=some y→l9 Tryz.prog 115 [.sl (s_.map d9.v),.fn (.func 112) []] [] (fun r H=>r=.int .i64 y∧H=[])) (ih_slices_ContainsFunc_api_Term_api_Term_of_rule_right_1:∀{s_:List d9} {y:Bool},c3e n s_=some y→l9 Tryz.prog 80 [.sl (s_.map d9.v),.fn (.func 112) []] [] (fun r H=>r=.bool y∧H=[])) (ih_rule_right:∀{c_:d9} {y:Bool},c3g n c_=some y→l9 Tryz.prog 76 [d9.v c_] [] (fun r H=>r=.bool y∧H=[])) (s_:List d9) {Q:Int→Prop} {Q':V→Heap→Prop} (h:Ok (c5f (n+1) s_) Q) (hQ:∀z,Q z→Q' (.int .i64 z) []):l9 Tryz.prog 115 [.sl (s_.map d9.v),.fn (.func 112) []] [] Q':=by
 refine a0s f8g [] [] [.t 4] Tryz.func115 fun M=>?_
 simp only [c5f] at h
 unfold f8g
 replace h:=tY h
 refine tB ?_
 repeat' (first
 | (exact tZ)
 | ((first|refine a6y h ?_|refine a1i h ?_|refine fork h ?_ ?_|refine a1j h ?_ ?_)<;>clear h<;>intro hc h)
 | (obtain ⟨y,hy,h⟩:=h;have hw:=ih_rule_right_1 hy;replace hw:=tY hw;(first|refine M.sC hw ?_|refine M.sD hw ?_);clear hw hy;refine tB ?_)
 | (refine M.for1 (b:=d1h) 8 [0,1,7] [] (fun x=>[]) (fun x=>[]) [] h ?_ ?_ ?_<;>first
 | (clear h;intro k a x Qn K hK1 hkN1 ha1 h hf;have hl:=a4q (a14 (n:=7) hf.1 rfl);clear hf;have hkd:=kD hkN1;have hkB1:=kB hkN1;have hkI1:=kI (k:=k) (by omega);unfold d1h;replace h:=tY h;refine tK ha1 hkd hkN1 hkB1 hkI1 ?_)
  |(clear h;intro x K h;replace h:=And.left (And.intro h trivial);unfold d1h;replace h:=tY h;refine tB ?_)
  |(clear h;(try refine tB ?_);exact tU0;done))
 | (simp only [ha1])
 | (refine hK1 _ ?_;(try refine tB ?_);refine ⟨_,h,?_⟩;exact tU0;done)
 | (refine tE ?_;(first|rw [M.lok_compU]|rw [M.lokD_compU]);refine tB ?_)
 | (refine tA ?_)
 | fail)
def f8l:MC:=rdc (cT Tryz.prog Tryz.f80 [] [])
theorem g2r {n:Nat} (ih_rule_right_1:∀{k_:d9} {y:Bool},c5g n k_=some y→l9 Tryz.prog 112 [d9.v k_] [] (fun r H=>r=.bool y∧H=[])) (ih_slices_IndexFunc_api_Term_api_Term_of_rule_right_1:∀{s_:List d9} {y:Int},c5f n s_=some y→l9 Tryz.prog 115 [.sl (s_.map d9.v),.fn (.func 112) []] [] (fun r H=>r=.int .i64 y∧H=[])) (ih_slices_ContainsFunc_api_Term_api_Term_of_rule_right_1:∀{s_:List d9} {y:Bool},c3e n s_=some y→l9 Tryz.prog 80 [.sl (s_.map d9.v),.fn (.func 112) []] [] (fun r H=>r=.bool y∧H=[])) (ih_rule_right:∀{c_:d9} {y:Bool},c3g n c_=some y→l9 Tryz.prog 76 [d9.v c_] [] (fun r H=>r=.bool y∧H=[])) (s_:List d9) {Q:Bool→Prop} {Q':V→Heap→Prop} (h:Ok (c3e (n+1) s_) Q) (hQ:∀z,Q z→Q' (.bool z) []):l9 Tryz.prog 80 [.sl (s_.map d9.v),.fn (.func 112) []] [] Q':=by
 refine a0s f8l [] [] [.t 4] Tryz.func80 fun M=>?_
 simp only [c3e] at h
 unfold f8l
 replace h:=tY h
 refine tB ?_
 repeat' (first
 | (exact tZ)
 | ((first|refine a6y h ?_|refine a1i h ?_|refine fork h ?_ ?_|refine a1j h ?_ ?_)<;>clear h<;>intro hc h)
 | (obtain ⟨y,hy,h⟩:=h;have hw:=ih_slices_IndexFunc_api_Term_api_Term_of_rule_right_1 hy;replace hw:=tY hw;(first|refine M.sC hw ?_|refine M.sD hw ?_);clear hw hy;refine tB ?_)
 | (refine tE ?_;(first|rw [M.lok_compU]|rw [M.lokD_compU]);refine tB ?_)
 | (refine tA ?_)
 | fail)
@[irreducible] def f5b:List MOp:=rdc (cG Tryz.prog Tryz.f76 [] 6 4 7)
@[irreducible] def d83:List MOp:=rdc (cG Tryz.prog Tryz.f76 [] 6 9 12)
@[irreducible] def d82:List MOp:=rdc (cG Tryz.prog Tryz.f76 [] 6 14 18)
@[irreducible] def d81:List MOp:=rdc (cG Tryz.prog Tryz.f76 [] 11 4 7)
@[irreducible] def d80:List MOp:=rdc (cG Tryz.prog Tryz.f76 [] 11 9 12)
@[irreducible] def d7z:List MOp:=rdc (cG Tryz.prog Tryz.f76 [] 11 14 17)
@[irreducible] def d7y:List MOp:=rdc (cG Tryz.prog Tryz.f76 [] 11 19 23)
@[irreducible] def d7x:List MOp:=rdc (cG Tryz.prog Tryz.f76 [] 13 4 7)
@[irreducible] def d7w:List MOp:=rdc (cG Tryz.prog Tryz.f76 [] 13 9 13)
@[irreducible] def d7v:List MOp:=rdc (cG Tryz.prog Tryz.f76 [] 17 4 7)
@[irreducible] def d7u:List MOp:=rdc (cG Tryz.prog Tryz.f76 [] 17 9 12)
@[irreducible] def d7t:List MOp:=rdc (cG Tryz.prog Tryz.f76 [] 17 14 34)
@[irreducible] def d7s:List MOp:=rdc (cG Tryz.prog Tryz.f76 [] 18 2 6)
def a_4:List (Nat×RN):=[(6,⟨[],[],[.u 4 7 f5b,.u 9 12 d83,.u 14 18 d82]⟩),(11,⟨[],[],[.u 4 7 d81,.u 9 12 d80,.u 14 17 d7z,.u 19 23 d7y]⟩),(13,⟨[],[],[.u 4 7 d7x,.u 9 13 d7w]⟩),(17,⟨[],[],[.u 4 7 d7v,.u 9 12 d7u,.u 14 34 d7t]⟩),(18,⟨[],[],[.u 2 6 d7s]⟩)]
@[irreducible] def c4j:MC:=rdc (cK Tryz.prog Tryz.f76 a_4 [] 10000017)
@[irreducible] def c6y:MC:=rdc (cK Tryz.prog Tryz.f76 a_4 [(10000017,c4j)] 10000011)
@[irreducible] def d1g:MC:=rdc (cK Tryz.prog Tryz.f76 a_4 [(10000017,c4j),(10000011,c6y)] 10000006)
@[irreducible] def d8u:MC:=rdc (cK Tryz.prog Tryz.f76 a_4 [(10000017,c4j),(10000011,c6y),(10000006,d1g)] 10000018)
def f9e:MC:=rdc (cT Tryz.prog Tryz.f76 a_4 [(10000017,c4j),(10000011,c6y),(10000006,d1g),(10000018,d8u)])
theorem g3q {n:Nat} (ih_rule_right_1:∀{k_:d9} {y:Bool},c5g n k_=some y→l9 Tryz.prog 112 [d9.v k_] [] (fun r H=>r=.bool y∧H=[])) (ih_slices_IndexFunc_api_Term_api_Term_of_rule_right_1:∀{s_:List d9} {y:Int},c5f n s_=some y→l9 Tryz.prog 115 [.sl (s_.map d9.v),.fn (.func 112) []] [] (fun r H=>r=.int .i64 y∧H=[])) (ih_slices_ContainsFunc_api_Term_api_Term_of_rule_right_1:∀{s_:List d9} {y:Bool},c3e n s_=some y→l9 Tryz.prog 80 [.sl (s_.map d9.v),.fn (.func 112) []] [] (fun r H=>r=.bool y∧H=[])) (ih_rule_right:∀{c_:d9} {y:Bool},c3g n c_=some y→l9 Tryz.prog 76 [d9.v c_] [] (fun r H=>r=.bool y∧H=[])) (c_:d9) {Q:Bool→Prop} {Q':V→Heap→Prop} (h:Ok (c3g (n+1) c_) Q) (hQ:∀z,Q z→Q' (.bool z) []):l9 Tryz.prog 76 [d9.v c_] [] Q':=by
 refine a0s f9e [] [] [.t 2] Tryz.func76 fun M=>?_
 simp only [c3g] at h
 unfold f9e
 replace h:=tY h
 refine tB ?_
 repeat' (first
 | (exact tZ)
 | ((first|refine a6y h ?_|refine a1i h ?_|refine fork h ?_ ?_|refine a1j h ?_ ?_)<;>clear h<;>intro hc h)
 | (obtain ⟨y,hy,h⟩:=h;(first|with_reducible first|have hw:=f6w.c.w hy|have hw:=ih_slices_ContainsFunc_api_Term_api_Term_of_rule_right_1 hy);replace hw:=tY hw;(first|refine M.sC hw ?_|refine M.sD hw ?_);clear hw hy;refine tB ?_)
 | (refine M.gv1 (ms:=d82) 28 [24,25,26,27] h ?_ ?_<;>first
 | (clear h;intro K hK1;unfold d82;refine tB ?_)
 | (clear h;intro b h;replace h:=tY h;refine tB ?_))
 | (refine M.gv1 (ms:=d83) 22 [19,20,21] h ?_ ?_<;>first
 | (clear h;intro K hK2;unfold d83;refine tB ?_)
 | (clear h;intro b h;replace h:=tY h;refine tB ?_))
 | (refine M.gv1 (ms:=f5b) 17 [14,15,16] h ?_ ?_<;>first
 | (clear h;intro K hK3;unfold f5b;refine tB ?_)
 | (clear h;intro b h;replace h:=tY h;refine tB ?_))
 | (refine M.gv1 (ms:=d7y) 57 [53,54,55,56] h ?_ ?_<;>first
 | (clear h;intro K hK4;unfold d7y;refine tB ?_)
 | (clear h;intro b h;replace h:=tY h;refine tB ?_))
 | (refine M.gv1 (ms:=d7z) 51 [48,49,50] h ?_ ?_<;>first
 | (clear h;intro K hK5;unfold d7z;refine tB ?_)
 | (clear h;intro b h;replace h:=tY h;refine tB ?_))
 | (refine M.gv1 (ms:=d80) 46 [43,44,45] h ?_ ?_<;>first
 | (clear h;intro K hK6;unfold d80;refine tB ?_)
 | (clear h;intro b h;replace h:=tY h;refine tB ?_))
 | (refine M.gv1 (ms:=d81) 41 [38,39,40] h ?_ ?_<;>first
 | (clear h;intro K hK7;unfold d81;refine tB ?_)
 | (clear h;intro b h;replace h:=tY h;refine tB ?_))
 | (refine M.gv1 (ms:=d7w) 73 [69,70,71,72] h ?_ ?_<;>first
 | (clear h;intro K hK8;unfold d7w;refine tB ?_)
 | (clear h;intro b h;replace h:=tY h;refine tB ?_))
 | (refine M.gv1 (ms:=d7x) 67 [64,65,66] h ?_ ?_<;>first
 | (clear h;intro K hK9;unfold d7x;refine tB ?_)
 | (clear h;intro b h;replace h:=tY h;refine tB ?_))
 | (refine M.gv1 (ms:=d7t) 112 [92,93,94,95,96,97,98,99,100,101,102,103,104,105,106,107,108,109,110,111] h ?_ ?_<;>first
 | (clear h;intro K hK10;unfold d7t;refine tB ?_)
 | (clear h;intro b h;replace h:=tY h;refine tB ?_))
 | (refine M.gv1 (ms:=d7u) 90 [87,88,89] h ?_ ?_<;>first
 | (clear h;intro K hK11;unfold d7u;refine tB ?_)
 | (clear h;intro b h;replace h:=tY h;refine tB ?_))
 | (refine M.gv1 (ms:=d7v) 85 [82,83,84] h ?_ ?_<;>first
 | (clear h;intro K hK12;unfold d7v;refine tB ?_)
 | (clear h;intro b h;replace h:=tY h;refine tB ?_))
 | (refine M.jn1 (b:=c4j) [1,3] [1] (fun y=>[(74,.bool y)]) (fun y=>[]) [] h ?_ ?_<;>first
 | (clear h;intro Qn K hK13 h;replace h:=tY h;refine tB ?_)
  |(clear h;intro y h;unfold c4j;replace h:=tY h;refine tB ?_))
 | (refine M.jn1 (b:=c6y) [1,3,5] [1] (fun y=>[(29,.bool y)]) (fun y=>[]) [] h ?_ ?_<;>first
 | (clear h;intro Qn K hK14 h;replace h:=tY h;refine tB ?_)
  |(clear h;intro y h;unfold c6y;replace h:=tY h;refine tB ?_))
 | (refine M.jn1 (b:=d1g) [1,3,5] [1] (fun y=>[(6,.bool y)]) (fun y=>[]) [] h ?_ ?_<;>first
 | (clear h;intro Qn K hK15 h;replace h:=tY h;refine tB ?_)
  |(clear h;intro y h;unfold d1g;replace h:=tY h;refine tB ?_))
 | (refine M.gj1 (ms:=d7s) [] [] (fun y=>[(119,.bool y)]) (fun y=>[]) h ?_ ?_<;>first
 | (clear h;intro Qn K hK16 h;unfold d7s;replace h:=tY h;refine tB ?_)
  |(clear h;intro y h;replace h:=tY h;refine tB ?_))
 | (refine M.jn1 (b:=d8u) [1] [1] (fun y=>[(3,.bool y)]) (fun y=>[]) [] h ?_ ?_<;>first
 | (clear h;intro Qn K hK17 h;replace h:=tY h;refine tB ?_)
  |(clear h;intro y h;unfold d8u;replace h:=tY h;refine tB ?_))
 | ((first|refine hK1 _ ?_|refine hK2 _ ?_|refine hK3 _ ?_|refine hK4 _ ?_|refine hK5 _ ?_|refine hK6 _ ?_|refine hK7 _ ?_|refine hK8 _ ?_|refine hK9 _ ?_|refine hK10 _ ?_|refine hK11 _ ?_|refine hK12 _ ?_);exact tU;done)
 | ((first|refine hK13 _ ?_|refine hK14 _ ?_|refine hK15 _ ?_|refine hK16 _ ?_|refine hK17 _ ?_);(try refine tB ?_);refine ⟨_,h,?_⟩;exact tU0;done)
 | (refine a9i (fun hc=>?_) (fun hc=>?_))
 | (refine tE ?_;(first|rw [M.lok_compU]|rw [M.lokD_compU]);refine tB ?_)
 | (refine tA ?_)
 | fail)
theorem c96:∀n,(∀{k_:d9} {y:Bool},c5g n k_=some y→l9 Tryz.prog 112 [d9.v k_] [] (fun r H=>r=.bool y∧H=[]))∧(∀{s_:List d9} {y:Int},c5f n s_=some y→l9 Tryz.prog 115 [.sl (s_.map d9.v),.fn (.func 112) []] [] (fun r H=>r=.int .i64 y∧H=[]))∧(∀{s_:List d9} {y:Bool},c3e n s_=some y→l9 Tryz.prog 80 [.sl (s_.map d9.v),.fn (.func 112) []] [] (fun r H=>r=.bool y∧H=[]))∧(∀{c_:d9} {y:Bool},c3g n c_=some y→l9 Tryz.prog 76 [d9.v c_] [] (fun r H=>r=.bool y∧H=[]))
 | 0=>⟨fun hy=>(by simp only [c5g] at hy;cases hy),fun hy=>(by simp only [c5f] at hy;cases hy),fun hy=>(by simp only [c3e] at hy;cases hy),fun hy=>(by simp only [c3g] at hy;cases hy)⟩
 | n+1=>by
  obtain ⟨ih_rule_right_1,ih_slices_IndexFunc_api_Term_api_Term_of_rule_right_1,ih_slices_ContainsFunc_api_Term_api_Term_of_rule_right_1,ih_rule_right⟩:=c96 n
  refine ⟨?_,?_,?_,?_⟩
  ·exact fun hy=>g2x ih_rule_right_1 ih_slices_IndexFunc_api_Term_api_Term_of_rule_right_1 ih_slices_ContainsFunc_api_Term_api_Term_of_rule_right_1 ih_rule_right _ (Q:=(·=_)) ⟨_,hy,rfl⟩ fun|_,rfl=>⟨rfl,rfl⟩
  ·exact fun hy=>g2m ih_rule_right_1 ih_slices_IndexFunc_api_Term_api_Term_of_rule_right_1 ih_slices_ContainsFunc_api_Term_api_Term_of_rule_right_1 ih_rule_right _ (Q:=(·=_)) ⟨_,hy,rfl⟩ fun|_,rfl=>⟨rfl,rfl⟩
  ·exact fun hy=>g2r ih_rule_right_1 ih_slices_IndexFunc_api_Term_api_Term_of_rule_right_1 ih_slices_ContainsFunc_api_Term_api_Term_of_rule_right_1 ih_rule_right _ (Q:=(·=_)) ⟨_,hy,rfl⟩ fun|_,rfl=>⟨rfl,rfl⟩
  ·exact fun hy=>g3q ih_rule_right_1 ih_slices_IndexFunc_api_Term_api_Term_of_rule_right_1 ih_slices_ContainsFunc_api_Term_api_Term_of_rule_right_1 ih_rule_right _ (Q:=(·=_)) ⟨_,hy,rfl⟩ fun|_,rfl=>⟨rfl,rfl⟩
theorem W_i:∀{k_:d9} {y:Bool},F_i k_=some y→l9 Tryz.prog 112 [d9.v k_] [] (fun r H=>r=.bool y∧H=[]):=fun hy=>by
 obtain ⟨n,hn⟩:=a0n hy
 exact (c96 n).1 hn
instance c90 {k_:d9}:WI (F_i k_) Tryz.prog 112 [d9.v k_] [] (fun y=>.bool y) (fun y=>[]):=⟨fun Q Q' h hQ=>by obtain ⟨y,hy,hq⟩:=h;exact (W_i hy).mono fun r H' e=>by rw [e.1,e.2];exact hQ y hq⟩
theorem W_t:∀{s_:List d9} {y:Int},F_t s_=some y→l9 Tryz.prog 115 [.sl (s_.map d9.v),.fn (.func 112) []] [] (fun r H=>r=.int .i64 y∧H=[]):=fun hy=>by
 obtain ⟨n,hn⟩:=a0n hy
 exact (c96 n).2.1 hn
instance a4u {s_:List d9}:WI (F_t s_) Tryz.prog 115 [.sl (s_.map d9.v),.fn (.func 112) []] [] (fun y=>.int .i64 y) (fun y=>[]):=⟨fun Q Q' h hQ=>by obtain ⟨y,hy,hq⟩:=h;exact (W_t hy).mono fun r H' e=>by rw [e.1,e.2];exact hQ y hq⟩
theorem W_o:∀{s_:List d9} {y:Bool},F_o s_=some y→l9 Tryz.prog 80 [.sl (s_.map d9.v),.fn (.func 112) []] [] (fun r H=>r=.bool y∧H=[]):=fun hy=>by
 obtain ⟨n,hn⟩:=a0n hy
 exact (c96 n).2.2.1 hn
instance a4j {s_:List d9}:WI (F_o s_) Tryz.prog 80 [.sl (s_.map d9.v),.fn (.func 112) []] [] (fun y=>.bool y) (fun y=>[]):=⟨fun Q Q' h hQ=>by obtain ⟨y,hy,hq⟩:=h;exact (W_o hy).mono fun r H' e=>by rw [e.1,e.2];exact hQ y hq⟩
theorem W_4:∀{c_:d9} {y:Bool},F_4 c_=some y→l9 Tryz.prog 76 [d9.v c_] [] (fun r H=>r=.bool y∧H=[]):=fun hy=>by
 obtain ⟨n,hn⟩:=a0n hy
 exact (c96 n).2.2.2 hn
instance d3f {c_:d9}:WI (F_4 c_) Tryz.prog 76 [d9.v c_] [] (fun y=>.bool y) (fun y=>[]):=⟨fun Q Q' h hQ=>by obtain ⟨y,hy,hq⟩:=h;exact (W_4 hy).mono fun r H' e=>by rw [e.1,e.2];exact hQ y hq⟩
def d4t (c_:d9):Option Int :=
 (F_g c_).bind fun y8=>bif decide (60<y8) then some 3 else (F_h c_ 20).bind fun y10=>bif decide (20<y10) then some 9 else (F_4 c_).bind fun y12=>bif (!y12) then some 1 else some 0
instance g4h {c_:d9}:WJ (d4t c_) 41 [d9.v c_] (.int .i64):=wX Tryz.func41 [(5,⟨[.gc [1]],[],[]⟩)] (h:=fun _ _ h hQ M=>by unfold d4t at h;exact tX)
def e9t (s_:Str) (kG:Str):Option Bool :=
 jn (α:=Bool) (bif decide ((kG.length:Int)≤(s_.length:Int)) then chk (inc 0 (kG.length:Int) s_.length) (some (decide ((s_.take (((kG.length:Int)).toNat))=kG))) else some false) fun j2=>some j2
instance e76 {m:List MOp}:GI (gjt 1130106 m) [4] [] (fun y:Bool=>[(17,.bool y)]) (fun y=>[]):=⟨⟩
instance g3t {s_ kG:Str}:WJ (e9t s_ kG) 113 [.str s_,.str kG] .bool:=wX Tryz.func113 [(1,⟨[],[],[.w 6 12 1130106]⟩)] (h:=fun _ _ h hQ M=>by unfold e9t at h;exact tX)
def d4v (s_:Str) (kG:Str):Option Bool :=
 (e9t s_ kG).bind fun y2=>some y2
instance e9k {s_ kG:Str}:WJ (d4v s_ kG) 78 [.str s_,.str kG] .bool:=wX Tryz.func78 (h:=fun _ _ h hQ M=>by unfold d4v at h;exact tX)
def e9s (s_:Str) (qF:Str):Option Bool :=
 jn (α:=Bool) (bif decide ((qF.length:Int)≤(s_.length:Int)) then chk (a0c ((s_.length:Int) - (qF.length:Int))) (chk (inc ((s_.length:Int) - (qF.length:Int)) (s_.length:Int) s_.length) (some (decide ((s_.drop ((((s_.length:Int) - (qF.length:Int))).toNat))=qF)))) else some false) fun j2=>some j2
instance e75 {m:List MOp}:GI (gjt 1140106 m) [4] [] (fun y:Bool=>[(20,.bool y)]) (fun y=>[]):=⟨⟩
instance g3s {s_ qF:Str}:WJ (e9s s_ qF) 114 [.str s_,.str qF] .bool:=wX Tryz.func114 [(1,⟨[],[],[.w 6 15 1140106]⟩)] (h:=fun _ _ h hQ M=>by unfold e9s at h;exact tX)
def e2s (s_:Str) (qF:Str):Option Bool :=
 (e9s s_ qF).bind fun y2=>some y2
instance f6s {s_ qF:Str}:WJ (e2s s_ qF) 79 [.str s_,.str qF] .bool:=wX Tryz.func79 (h:=fun _ _ h hQ M=>by unfold e2s at h;exact tX)
mutual
def b5l:Nat→d9→(List l6)→l5→l8→Option Bool
 | 0,_,_,_,_=>none
 | n+1,k_,p_,p__,kC =>
 (b9x n k_ p_ p__ kC).bind fun y2=>some y2
def b9z:Nat→d9→(List l6)→l5→l8→Option Bool
 | 0,_,_,_,_=>none
 | n+1,k_,qG,gD,qC =>
 (b5l n k_ qG gD qC).bind fun y2=>some (!y2)
def c02:Nat→(List d9)→(List l6)→l5→l8→Option Int
 | 0,_,_,_,_=>none
 | n+1,s_,gB,qA,jA =>
 (forL (fun (k31:Int) (a32:d9) (x30:Unit)=>((b9z n a32 gB qA jA).bind fun y40=>bif y40 then some (.ex k31) else some (.nx ()):Option (Fl Unit Int))) s_ 0 ()).bind fun o=>o.elim (fun x41=>some (-1)) (fun r42=>some r42)
def b9w:Nat→(List d9)→(List l6)→l5→l8→Option Bool
 | 0,_,_,_,_=>none
 | n+1,s_,gB,qA,jA =>
 (c02 n s_ gB qA jA).bind fun y2=>some (decide (0≤y2))
def c01:Nat→(List d9)→(List l6)→l5→l8→Option Int
 | 0,_,_,_,_=>none
 | n+1,s_,tC,qB,jB =>
 (forL (fun (k31:Int) (a32:d9) (x30:Unit)=>((b5l n a32 tC qB jB).bind fun y40=>bif y40 then some (.ex k31) else some (.nx ()):Option (Fl Unit Int))) s_ 0 ()).bind fun o=>o.elim (fun x41=>some (-1)) (fun r42=>some r42)
def b9v:Nat→(List d9)→(List l6)→l5→l8→Option Bool
 | 0,_,_,_,_=>none
 | n+1,s_,tC,qB,jB =>
 (c01 n s_ tC qB jB).bind fun y2=>some (decide (0≤y2))
def b9x:Nat→d9→(List l6)→l5→l8→Option Bool
 | 0,_,_,_,_=>none
 | n+1,c_,jC,f_,s_ =>
 bif decide (c_.Op=1) then bif decide (0≤f_.Kind) then bif decide (f_.Kind<(jC.length:Int)) then chk (inb f_.Kind jC.length) (some (decide ((jC.getD (f_.Kind).toNat default).Name=c_.Text))) else some false else some false else bif decide (c_.Op=2) then (d4v s_.Place.Path c_.Text).bind fun y12=>some y12 else bif decide (c_.Op=3) then (e2s s_.Place.Path c_.Text).bind fun y14=>some y14 else bif decide (c_.Op=4) then some (decide (s_.Place.Source=c_.Number)) else bif decide (c_.Op=5) then some (decide (c_.Number≤(s_.Layers.length:Int))) else bif decide (c_.Op=6) then jn (α:=Bool) (bif decide (s_.From≤s_.To) then some (decide ((IntKind.wrap .u64 c_.Number)≤(IntKind.wrap .u64 ((IntKind.wrap .u64 s_.To) - (IntKind.wrap .u64 s_.From))))) else some false) fun j16=>some j16 else bif decide (c_.Op=7) then some (decide (f_.Fingerprint=c_.Print)) else bif decide (c_.Op=8) then some (decide (s_.Place.Time<c_.Number)) else bif decide (c_.Op=9) then chk (inb 0 c_.Kids.length) ((b5l n (c_.Kids.getD 0 default) jC f_ s_).bind fun y18=>some (!y18)) else bif decide (c_.Op=10) then (b9w n c_.Kids jC f_ s_).bind fun y20=>some (!y20) else (b9v n c_.Kids jC f_ s_).bind fun y22=>some y22
end
def F_1 (k_:d9) (p_:List l6) (p__:l5) (kC:l8):Option Bool:=lim fun n=>b5l n k_ p_ p__ kC
def F_n (k_:d9) (qG:List l6) (gD:l5) (qC:l8):Option Bool:=lim fun n=>b9z n k_ qG gD qC
def F_a (s_:List d9) (gB:List l6) (qA:l5) (jA:l8):Option Int:=lim fun n=>c02 n s_ gB qA jA
def F_j (s_:List d9) (gB:List l6) (qA:l5) (jA:l8):Option Bool:=lim fun n=>b9w n s_ gB qA jA
def F_b (s_:List d9) (tC:List l6) (qB:l5) (jB:l8):Option Int:=lim fun n=>c01 n s_ tC qB jB
def F_k (s_:List d9) (tC:List l6) (qB:l5) (jB:l8):Option Bool:=lim fun n=>b9v n s_ tC qB jB
def F_6 (c_:d9) (jC:List l6) (f_:l5) (s_:l8):Option Bool:=lim fun n=>b9x n c_ jC f_ s_
def f9g:MC:=rdc (cT Tryz.prog Tryz.f77 [] [])
theorem g54 {n:Nat} (ih_rule_holds_1:∀{k_:d9} {p_:List l6} {p__:l5} {kC:l8} {y:Bool},b5l n k_ p_ p__ kC=some y→l9 Tryz.prog 77 [d9.v k_,.ptr 1000 0,.ptr 1001 0,.ptr 1002 0] [(1000,.cells [.sl (p_.map l6.v)]),(1001,.cells [.int .i64 p__.Kind,.int .u64 p__.Fingerprint,.sl (p__.Where.map l8.v)]),(1002,.cells [.int .i64 kC.Place.Source,.str kC.Place.Path,.int .i64 kC.Place.Time,.sl (kC.Layers.map o5.v),.int .i64 kC.From,.int .i64 kC.To])] (fun r H=>r=.bool y∧H=[(1000,.cells [.sl (p_.map l6.v)]),(1001,.cells [.int .i64 p__.Kind,.int .u64 p__.Fingerprint,.sl (p__.Where.map l8.v)]),(1002,.cells [.int .i64 kC.Place.Source,.str kC.Place.Path,.int .i64 kC.Place.Time,.sl (kC.Layers.map o5.v),.int .i64 kC.From,.int .i64 kC.To])])) (ih_rule_holds_2:∀{k_:d9} {qG:List l6} {gD:l5} {qC:l8} {y:Bool},b9z n k_ qG gD qC=some y→l9 Tryz.prog 81 [d9.v k_,.ptr 1000 0] [(1000,.cells [.fn (.func 77) [.ptr 1001 0,.ptr 1002 0,.ptr 1003 0]]),(1001,.cells [.sl (qG.map l6.v)]),(1002,.cells [.int .i64 gD.Kind,.int .u64 gD.Fingerprint,.sl (gD.Where.map l8.v)]),(1003,.cells [.int .i64 qC.Place.Source,.str qC.Place.Path,.int .i64 qC.Place.Time,.sl (qC.Layers.map o5.v),.int .i64 qC.From,.int .i64 qC.To])] (fun r H=>r=.bool y∧H=[(1000,.cells [.fn (.func 77) [.ptr 1001 0,.ptr 1002 0,.ptr 1003 0]]),(1001,.cells [.sl (qG.map l6.v)]),(1002,.cells [.int .i64 gD.Kind,.int .u64 gD.Fingerprint,.sl (gD.Where.map l8.v)]),(1003,.cells [.int .i64 qC.Place.Source,.str qC.Place.Path,.int .i64 qC.Place.Time,.sl (qC.Layers.map o5.v),.int .i64 qC.From,.int .i64 qC.To])])) (ih_slices_IndexFunc_api_Term_api_Term_of_rule_holds_2:∀{s_:List d9} {gB:List l6} {qA:l5} {jA:l8} {y:Int},c02 n s_ gB qA jA=some y→l9 Tryz.prog 115 [.sl (s_.map d9.v),.fn (.func 81) [.ptr 1000 0]] [(1000,.cells [.fn (.func 77) [.ptr 1001 0,.ptr 1002 0,.ptr 1003 0]]),(1001,.cells [.sl (gB.map l6.v)]),(1002,.cells [.int .i64 qA.Kind,.int .u64 qA.Fingerprint,.sl (qA.Where.map l8.v)]),(1003,.cells [.int .i64 jA.Place.Source,.str jA.Place.Path,.int .i64 jA.Place.Time,.sl (jA.Layers.map o5.v),.int .i64 jA.From,.int .i64 jA.To])] (fun r H=>r=.int .i64 y∧H=[(1000,.cells [.fn (.func 77) [.ptr 1001 0,.ptr 1002 0,.ptr 1003 0]]),(1001,.cells [.sl (gB.map l6.v)]),(1002,.cells [.int .i64 qA.Kind,.int .u64 qA.Fingerprint,.sl (qA.Where.map l8.v)]),(1003,.cells [.int .i64 jA.Place.Source,.str jA.Place.Path,.int .i64 jA.Place.Time,.sl (jA.Layers.map o5.v),.int .i64 jA.From,.int .i64 jA.To])])) (ih_slices_ContainsFunc_api_Term_api_Term_of_rule_holds_2:∀{s_:List d9} {gB:List l6} {qA:l5} {jA:l8} {y:Bool},b9w n s_ gB qA jA=some y→l9 Tryz.prog 80 [.sl (s_.map d9.v),.fn (.func 81) [.ptr 1000 0]] [(1000,.cells [.fn (.func 77) [.ptr 1001 0,.ptr 1002 0,.ptr 1003 0]]),(1001,.cells [.sl (gB.map l6.v)]),(1002,.cells [.int .i64 qA.Kind,.int .u64 qA.Fingerprint,.sl (qA.Where.map l8.v)]),(1003,.cells [.int .i64 jA.Place.Source,.str jA.Place.Path,.int .i64 jA.Place.Time,.sl (jA.Layers.map o5.v),.int .i64 jA.From,.int .i64 jA.To])] (fun r H=>r=.bool y∧H=[(1000,.cells [.fn (.func 77) [.ptr 1001 0,.ptr 1002 0,.ptr 1003 0]]),(1001,.cells [.sl (gB.map l6.v)]),(1002,.cells [.int .i64 qA.Kind,.int .u64 qA.Fingerprint,.sl (qA.Where.map l8.v)]),(1003,.cells [.int .i64 jA.Place.Source,.str jA.Place.Path,.int .i64 jA.Place.Time,.sl (jA.Layers.map o5.v),.int .i64 jA.From,.int .i64 jA.To])])) (ih_slices_IndexFunc_api_Term_api_Term_of_rule_holds_1:∀{s_:List d9} {tC:List l6} {qB:l5} {jB:l8} {y:Int},c01 n s_ tC qB jB=some y→l9 Tryz.prog 115 [.sl (s_.map d9.v),.fn (.func 77) [.ptr 1000 0,.ptr 1001 0,.ptr 1002 0]] [(1000,.cells [.sl (tC.map l6.v)]),(1001,.cells [.int .i64 qB.Kind,.int .u64 qB.Fingerprint,.sl (qB.Where.map l8.v)]),(1002,.cells [.int .i64 jB.Place.Source,.str jB.Place.Path,.int .i64 jB.Place.Time,.sl (jB.Layers.map o5.v),.int .i64 jB.From,.int .i64 jB.To])] (fun r H=>r=.int .i64 y∧H=[(1000,.cells [.sl (tC.map l6.v)]),(1001,.cells [.int .i64 qB.Kind,.int .u64 qB.Fingerprint,.sl (qB.Where.map l8.v)]),(1002,.cells [.int .i64 jB.Place.Source,.str jB.Place.Path,.int .i64 jB.Place.Time,.sl (jB.Layers.map o5.v),.int .i64 jB.From,.int .i64 jB.To])])) (ih_slices_ContainsFunc_api_Term_api_Term_of_rule_holds_1:∀{s_:List d9} {tC:List l6} {qB:l5} {jB:l8} {y:Bool},b9v n s_ tC qB jB=some y→l9 Tryz.prog 80 [.sl (s_.map d9.v),.fn (.func 77) [.ptr 1000 0,.ptr 1001 0,.ptr 1002 0]] [(1000,.cells [.sl (tC.map l6.v)]),(1001,.cells [.int .i64 qB.Kind,.int .u64 qB.Fingerprint,.sl (qB.Where.map l8.v)]),(1002,.cells [.int .i64 jB.Place.Source,.str jB.Place.Path,.int .i64 jB.Place.Time,.sl (jB.Layers.map o5.v),.int .i64 jB.From,.int .i64 jB.To])] (fun r H=>r=.bool y∧H=[(1000,.cells [.sl (tC.map l6.v)]),(1001,.cells [.int .i64 qB.Kind,.int .u64 qB.Fingerprint,.sl (qB.Where.map l8.v)]),(1002,.cells [.int .i64 jB.Place.Source,.str jB.Place.Path,.int .i64 jB.Place.Time,.sl (jB.Layers.map o5.v),.int .i64 jB.From,.int .i64 jB.To])])) (ih_rule_holds:∀{c_:d9} {jC:List l6} {f_:l5} {s_:l8} {y:Bool},b9x n c_ jC f_ s_=some y→l9 Tryz.prog 42 [d9.v c_,.sl (jC.map l6.v),l5.v f_,l8.v s_] [] (fun r H=>r=.bool y∧H=[])) (k_:d9) (p_:List l6) (p__:l5) (kC:l8) {Q:Bool→Prop} {Q':V→Heap→Prop} (h:Ok (b5l (n+1) k_ p_ p__ kC) Q) (hQ:∀z,Q z→Q' (.bool z) [(1000,.cells [.sl (p_.map l6.v)]),(1001,.cells [.int .i64 p__.Kind,.int .u64 p__.Fingerprint,.sl (p__.Where.map l8.v)]),(1002,.cells [.int .i64 kC.Place.Source,.str kC.Place.Path,.int .i64 kC.Place.Time,.sl (kC.Layers.map o5.v),.int .i64 kC.From,.int .i64 kC.To])]):l9 Tryz.prog 77 [d9.v k_,.ptr 1000 0,.ptr 1001 0,.ptr 1002 0] [(1000,.cells [.sl (p_.map l6.v)]),(1001,.cells [.int .i64 p__.Kind,.int .u64 p__.Fingerprint,.sl (p__.Where.map l8.v)]),(1002,.cells [.int .i64 kC.Place.Source,.str kC.Place.Path,.int .i64 kC.Place.Time,.sl (kC.Layers.map o5.v),.int .i64 kC.From,.int .i64 kC.To])] Q':=by
 refine a0s f9g [] [1000,1001,1002] [.t 5] Tryz.func77 fun M=>?_
 simp only [b5l] at h
 unfold f9g
 replace h:=tY h
 refine tB ?_
 repeat' (first
 | (exact tZ)
 | ((first|refine a6y h ?_|refine a1i h ?_|refine fork h ?_ ?_|refine a1j h ?_ ?_)<;>clear h<;>intro hc h)
 | (obtain ⟨y,hy,h⟩:=h;have hw:=ih_rule_holds hy;replace hw:=tY hw;(first|refine M.sC hw ?_|refine M.sD hw ?_);clear hw hy;refine tB ?_)
 | (refine tE ?_;(first|rw [M.lok_compU]|rw [M.lokD_compU]);refine tB ?_)
 | (refine tA ?_)
 | fail)
def f8m:MC:=rdc (cT Tryz.prog Tryz.f81 [(1,⟨[],[.c 2 0 [1001,1002,1003] []],[]⟩)] [])
theorem g2s {n:Nat} (ih_rule_holds_1:∀{k_:d9} {p_:List l6} {p__:l5} {kC:l8} {y:Bool},b5l n k_ p_ p__ kC=some y→l9 Tryz.prog 77 [d9.v k_,.ptr 1000 0,.ptr 1001 0,.ptr 1002 0] [(1000,.cells [.sl (p_.map l6.v)]),(1001,.cells [.int .i64 p__.Kind,.int .u64 p__.Fingerprint,.sl (p__.Where.map l8.v)]),(1002,.cells [.int .i64 kC.Place.Source,.str kC.Place.Path,.int .i64 kC.Place.Time,.sl (kC.Layers.map o5.v),.int .i64 kC.From,.int .i64 kC.To])] (fun r H=>r=.bool y∧H=[(1000,.cells [.sl (p_.map l6.v)]),(1001,.cells [.int .i64 p__.Kind,.int .u64 p__.Fingerprint,.sl (p__.Where.map l8.v)]),(1002,.cells [.int .i64 kC.Place.Source,.str kC.Place.Path,.int .i64 kC.Place.Time,.sl (kC.Layers.map o5.v),.int .i64 kC.From,.int .i64 kC.To])])) (ih_rule_holds_2:∀{k_:d9} {qG:List l6} {gD:l5} {qC:l8} {y:Bool},b9z n k_ qG gD qC=some y→l9 Tryz.prog 81 [d9.v k_,.ptr 1000 0] [(1000,.cells [.fn (.func 77) [.ptr 1001 0,.ptr 1002 0,.ptr 1003 0]]),(1001,.cells [.sl (qG.map l6.v)]),(1002,.cells [.int .i64 gD.Kind,.int .u64 gD.Fingerprint,.sl (gD.Where.map l8.v)]),(1003,.cells [.int .i64 qC.Place.Source,.str qC.Place.Path,.int .i64 qC.Place.Time,.sl (qC.Layers.map o5.v),.int .i64 qC.From,.int .i64 qC.To])] (fun r H=>r=.bool y∧H=[(1000,.cells [.fn (.func 77) [.ptr 1001 0,.ptr 1002 0,.ptr 1003 0]]),(1001,.cells [.sl (qG.map l6.v)]),(1002,.cells [.int .i64 gD.Kind,.int .u64 gD.Fingerprint,.sl (gD.Where.map l8.v)]),(1003,.cells [.int .i64 qC.Place.Source,.str qC.Place.Path,.int .i64 qC.Place.Time,.sl (qC.Layers.map o5.v),.int .i64 qC.From,.int .i64 qC.To])])) (ih_slices_IndexFunc_api_Term_api_Term_of_rule_holds_2:∀{s_:List d9} {gB:List l6} {qA:l5} {jA:l8} {y:Int},c02 n s_ gB qA jA=some y→l9 Tryz.prog 115 [.sl (s_.map d9.v),.fn (.func 81) [.ptr 1000 0]] [(1000,.cells [.fn (.func 77) [.ptr 1001 0,.ptr 1002 0,.ptr 1003 0]]),(1001,.cells [.sl (gB.map l6.v)]),(1002,.cells [.int .i64 qA.Kind,.int .u64 qA.Fingerprint,.sl (qA.Where.map l8.v)]),(1003,.cells [.int .i64 jA.Place.Source,.str jA.Place.Path,.int .i64 jA.Place.Time,.sl (jA.Layers.map o5.v),.int .i64 jA.From,.int .i64 jA.To])] (fun r H=>r=.int .i64 y∧H=[(1000,.cells [.fn (.func 77) [.ptr 1001 0,.ptr 1002 0,.ptr 1003 0]]),(1001,.cells [.sl (gB.map l6.v)]),(1002,.cells [.int .i64 qA.Kind,.int .u64 qA.Fingerprint,.sl (qA.Where.map l8.v)]),(1003,.cells [.int .i64 jA.Place.Source,.str jA.Place.Path,.int .i64 jA.Place.Time,.sl (jA.Layers.map o5.v),.int .i64 jA.From,.int .i64 jA.To])])) (ih_slices_ContainsFunc_api_Term_api_Term_of_rule_holds_2:∀{s_:List d9} {gB:List l6} {qA:l5} {jA:l8} {y:Bool},b9w n s_ gB qA jA=some y→l9 Tryz.prog 80 [.sl (s_.map d9.v),.fn (.func 81) [.ptr 1000 0]] [(1000,.cells [.fn (.func 77) [.ptr 1001 0,.ptr 1002 0,.ptr 1003 0]]),(1001,.cells [.sl (gB.map l6.v)]),(1002,.cells [.int .i64 qA.Kind,.int .u64 qA.Fingerprint,.sl (qA.Where.map l8.v)]),(1003,.cells [.int .i64 jA.Place.Source,.str jA.Place.Path,.int .i64 jA.Place.Time,.sl (jA.Layers.map o5.v),.int .i64 jA.From,.int .i64 jA.To])] (fun r H=>r=.bool y∧H=[(1000,.cells [.fn (.func 77) [.ptr 1001 0,.ptr 1002 0,.ptr 1003 0]]),(1001,.cells [.sl (gB.map l6.v)]),(1002,.cells [.int .i64 qA.Kind,.int .u64 qA.Fingerprint,.sl (qA.Where.map l8.v)]),(1003,.cells [.int .i64 jA.Place.Source,.str jA.Place.Path,.int .i64 jA.Place.Time,.sl (jA.Layers.map o5.v),.int .i64 jA.From,.int .i64 jA.To])])) (ih_slices_IndexFunc_api_Term_api_Term_of_rule_holds_1:∀{s_:List d9} {tC:List l6} {qB:l5} {jB:l8} {y:Int},c01 n s_ tC qB jB=some y→l9 Tryz.prog 115 [.sl (s_.map d9.v),.fn (.func 77) [.ptr 1000 0,.ptr 1001 0,.ptr 1002 0]] [(1000,.cells [.sl (tC.map l6.v)]),(1001,.cells [.int .i64 qB.Kind,.int .u64 qB.Fingerprint,.sl (qB.Where.map l8.v)]),(1002,.cells [.int .i64 jB.Place.Source,.str jB.Place.Path,.int .i64 jB.Place.Time,.sl (jB.Layers.map o5.v),.int .i64 jB.From,.int .i64 jB.To])] (fun r H=>r=.int .i64 y∧H=[(1000,.cells [.sl (tC.map l6.v)]),(1001,.cells [.int .i64 qB.Kind,.int .u64 qB.Fingerprint,.sl (qB.Where.map l8.v)]),(1002,.cells [.int .i64 jB.Place.Source,.str jB.Place.Path,.int .i64 jB.Place.Time,.sl (jB.Layers.map o5.v),.int .i64 jB.From,.int .i64 jB.To])])) (ih_slices_ContainsFunc_api_Term_api_Term_of_rule_holds_1:∀{s_:List d9} {tC:List l6} {qB:l5} {jB:l8} {y:Bool},b9v n s_ tC qB jB=some y→l9 Tryz.prog 80 [.sl (s_.map d9.v),.fn (.func 77) [.ptr 1000 0,.ptr 1001 0,.ptr 1002 0]] [(1000,.cells [.sl (tC.map l6.v)]),(1001,.cells [.int .i64 qB.Kind,.int .u64 qB.Fingerprint,.sl (qB.Where.map l8.v)]),(1002,.cells [.int .i64 jB.Place.Source,.str jB.Place.Path,.int .i64 jB.Place.Time,.sl (jB.Layers.map o5.v),.int .i64 jB.From,.int .i64 jB.To])] (fun r H=>r=.bool y∧H=[(1000,.cells [.sl (tC.map l6.v)]),(1001,.cells [.int .i64 qB.Kind,.int .u64 qB.Fingerprint,.sl (qB.Where.map l8.v)]),(1002,.cells [.int .i64 jB.Place.Source,.str jB.Place.Path,.int .i64 jB.Place.Time,.sl (jB.Layers.map o5.v),.int .i64 jB.From,.int .i64 jB.To])])) (ih_rule_holds:∀{c_:d9} {jC:List l6} {f_:l5} {s_:l8} {y:Bool},b9x n c_ jC f_ s_=some y→l9 Tryz.prog 42 [d9.v c_,.sl (jC.map l6.v),l5.v f_,l8.v s_] [] (fun r H=>r=.bool y∧H=[])) (k_:d9) (qG:List l6) (gD:l5) (qC:l8) {Q:Bool→Prop} {Q':V→Heap→Prop} (h:Ok (b9z (n+1) k_ qG gD qC) Q) (hQ:∀z,Q z→Q' (.bool z) [(1000,.cells [.fn (.func 77) [.ptr 1001 0,.ptr 1002 0,.ptr 1003 0]]),(1001,.cells [.sl (qG.map l6.v)]),(1002,.cells [.int .i64 gD.Kind,.int .u64 gD.Fingerprint,.sl (gD.Where.map l8.v)]),(1003,.cells [.int .i64 qC.Place.Source,.str qC.Place.Path,.int .i64 qC.Place.Time,.sl (qC.Layers.map o5.v),.int .i64 qC.From,.int .i64 qC.To])]):l9 Tryz.prog 81 [d9.v k_,.ptr 1000 0] [(1000,.cells [.fn (.func 77) [.ptr 1001 0,.ptr 1002 0,.ptr 1003 0]]),(1001,.cells [.sl (qG.map l6.v)]),(1002,.cells [.int .i64 gD.Kind,.int .u64 gD.Fingerprint,.sl (gD.Where.map l8.v)]),(1003,.cells [.int .i64 qC.Place.Source,.str qC.Place.Path,.int .i64 qC.Place.Time,.sl (qC.Layers.map o5.v),.int .i64 qC.From,.int .i64 qC.To])] Q':=by
 refine a0s f8m [] [1000,1001,1002,1003] [.t 3] Tryz.func81 fun M=>?_
 simp only [b9z] at h
 unfold f8m
 replace h:=tY h
 refine tB ?_
 repeat' (first
 | (exact tZ)
 | ((first|refine a6y h ?_|refine a1i h ?_|refine fork h ?_ ?_|refine a1j h ?_ ?_)<;>clear h<;>intro hc h)
 | (obtain ⟨y,hy,h⟩:=h;have hw:=p9 1000 1003 (p9 1000 1002 (p9 1000 1001 (ih_rule_holds_1 hy)));replace hw:=tY hw;(first|refine M.sC hw ?_|refine M.sD hw ?_);clear hw hy;refine tB ?_)
 | (refine tE ?_;(first|rw [M.lok_compU]|rw [M.lokD_compU]);refine tB ?_)
 | (refine tA ?_)
 | fail)
def a_a:List (Nat×RN):=[(4,⟨[],[.c 5 0 [1000,1001,1002,1003] []],[]⟩)]
@[irreducible] def d1f:MC:=rdc (cK Tryz.prog Tryz.f115 a_a [] 2)
def f8z:MC:=rdc (cT Tryz.prog Tryz.f115 a_a [(2,d1f)])
theorem g35 {n:Nat} (ih_rule_holds_1:∀{k_:d9} {p_:List l6} {p__:l5} {kC:l8} {y:Bool},b5l n k_ p_ p__ kC=some y→l9 Tryz.prog 77 [d9.v k_,.ptr 1000 0,.ptr 1001 0,.ptr 1002 0] [(1000,.cells [.sl (p_.map l6.v)]),(1001,.cells [.int .i64 p__.Kind,.int .u64 p__.Fingerprint,.sl (p__.Where.map l8.v)]),(1002,.cells [.int .i64 kC.Place.Source,.str kC.Place.Path,.int .i64 kC.Place.Time,.sl (kC.Layers.map o5.v),.int .i64 kC.From,.int .i64 kC.To])] (fun r H=>r=.bool y∧H=[(1000,.cells [.sl (p_.map l6.v)]),(1001,.cells [.int .i64 p__.Kind,.int .u64 p__.Fingerprint,.sl (p__.Where.map l8.v)]),(1002,.cells [.int .i64 kC.Place.Source,.str kC.Place.Path,.int .i64 kC.Place.Time,.sl (kC.Layers.map o5.v),.int .i64 kC.From,.int .i64 kC.To])])) (ih_rule_holds_2:∀{k_:d9} {qG:List l6} {gD:l5} {qC:l8} {y:Bool},b9z n k_ qG gD qC=some y→l9 Tryz.prog 81 [d9.v k_,.ptr 1000 0] [(1000,.cells [.fn (.func 77) [.ptr 1001 0,.ptr 1002 0,.ptr 1003 0]]),(1001,.cells [.sl (qG.map l6.v)]),(1002,.cells [.int .i64 gD.Kind,.int .u64 gD.Fingerprint,.sl (gD.Where.map l8.v)]),(1003,.cells [.int .i64 qC.Place.Source,.str qC.Place.Path,.int .i64 qC.Place.Time,.sl (qC.Layers.map o5.v),.int .i64 qC.From,.int .i64 qC.To])] (fun r H=>r=.bool y∧H=[(1000,.cells [.fn (.func 77) [.ptr 1001 0,.ptr 1002 0,.ptr 1003 0]]),(1001,.cells [.sl (qG.map l6.v)]),(1002,.cells [.int .i64 gD.Kind,.int .u64 gD.Fingerprint,.sl (gD.Where.map l8.v)]),(1003,.cells [.int .i64 qC.Place.Source,.str qC.Place.Path,.int .i64 qC.Place.Time,.sl (qC.Layers.map o5.v),.int .i64 qC.From,.int .i64 qC.To])])) (ih_slices_IndexFunc_api_Term_api_Term_of_rule_holds_2:∀{s_:List d9} {gB:List l6} {qA:l5} {jA:l8} {y:Int},c02 n s_ gB qA jA=some y→l9 Tryz.prog 115 [.sl (s_.map d9.v),.fn (.func 81) [.ptr 1000 0]] [(1000,.cells [.fn (.func 77) [.ptr 1001 0,.ptr 1002 0,.ptr 1003 0]]),(1001,.cells [.sl (gB.map l6.v)]),(1002,.cells [.int .i64 qA.Kind,.int .u64 qA.Fingerprint,.sl (qA.Where.map l8.v)]),(1003,.cells [.int .i64 jA.Place.Source,.str jA.Place.Path,.int .i64 jA.Place.Time,.sl (jA.Layers.map o5.v),.int .i64 jA.From,.int .i64 jA.To])] (fun r H=>r=.int .i64 y∧H=[(1000,.cells [.fn (.func 77) [.ptr 1001 0,.ptr 1002 0,.ptr 1003 0]]),(1001,.cells [.sl (gB.map l6.v)]),(1002,.cells [.int .i64 qA.Kind,.int .u64 qA.Fingerprint,.sl (qA.Where.map l8.v)]),(1003,.cells [.int .i64 jA.Place.Source,.str jA.Place.Path,.int .i64 jA.Place.Time,.sl (jA.Layers.map o5.v),.int .i64 jA.From,.int .i64 jA.To])])) (ih_slices_ContainsFunc_api_Term_api_Term_of_rule_holds_2:∀{s_:List d9} {gB:List l6} {qA:l5} {jA:l8} {y:Bool},b9w n s_ gB qA jA=some y→l9 Tryz.prog 80 [.sl (s_.map d9.v),.fn (.func 81) [.ptr 1000 0]] [(1000,.cells [.fn (.func 77) [.ptr 1001 0,.ptr 1002 0,.ptr 1003 0]]),(1001,.cells [.sl (gB.map l6.v)]),(1002,.cells [.int .i64 qA.Kind,.int .u64 qA.Fingerprint,.sl (qA.Where.map l8.v)]),(1003,.cells [.int .i64 jA.Place.Source,.str jA.Place.Path,.int .i64 jA.Place.Time,.sl (jA.Layers.map o5.v),.int .i64 jA.From,.int .i64 jA.To])] (fun r H=>r=.bool y∧H=[(1000,.cells [.fn (.func 77) [.ptr 1001 0,.ptr 1002 0,.ptr 1003 0]]),(1001,.cells [.sl (gB.map l6.v)]),(1002,.cells [.int .i64 qA.Kind,.int .u64 qA.Fingerprint,.sl (qA.Where.map l8.v)]),(1003,.cells [.int .i64 jA.Place.Source,.str jA.Place.Path,.int .i64 jA.Place.Time,.sl (jA.Layers.map o5.v),.int .i64 jA.From,.int .i64 jA.To])])) (ih_slices_IndexFunc_api_Term_api_Term_of_rule_holds_1:∀{s_:List d9} {tC:List l6} {qB:l5} {jB:l8} {y:Int},c01 n s_ tC qB jB=some y→l9 Tryz.prog 115 [.sl (s_.map d9.v),.fn (.func 77) [.ptr 1000 0,.ptr 1001 0,.ptr 1002 0]] [(1000,.cells [.sl (tC.map l6.v)]),(1001,.cells [.int .i64 qB.Kind,.int .u64 qB.Fingerprint,.sl (qB.Where.map l8.v)]),(1002,.cells [.int .i64 jB.Place.Source,.str jB.Place.Path,.int .i64 jB.Place.Time,.sl (jB.Layers.map o5.v),.int .i64 jB.From,.int .i64 jB.To])] (fun r H=>r=.int .i64 y∧H=[(1000,.cells [.sl (tC.map l6.v)]),(1001,.cells [.int .i64 qB.Kind,.int .u64 qB.Fingerprint,.sl (qB.Where.map l8.v)]),(1002,.cells [.int .i64 jB.Place.Source,.str jB.Place.Path,.int .i64 jB.Place.Time,.sl (jB.Layers.map o5.v),.int .i64 jB.From,.int .i64 jB.To])])) (ih_slices_ContainsFunc_api_Term_api_Term_of_rule_holds_1:∀{s_:List d9} {tC:List l6} {qB:l5} {jB:l8} {y:Bool},b9v n s_ tC qB jB=some y→l9 Tryz.prog 80 [.sl (s_.map d9.v),.fn (.func 77) [.ptr 1000 0,.ptr 1001 0,.ptr 1002 0]] [(1000,.cells [.sl (tC.map l6.v)]),(1001,.cells [.int .i64 qB.Kind,.int .u64 qB.Fingerprint,.sl (qB.Where.map l8.v)]),(1002,.cells [.int .i64 jB.Place.Source,.str jB.Place.Path,.int .i64 jB.Place.Time,.sl (jB.Layers.map o5.v),.int .i64 jB.From,.int .i64 jB.To])] (fun r H=>r=.bool y∧H=[(1000,.cells [.sl (tC.map l6.v)]),(1001,.cells [.int .i64 qB.Kind,.int .u64 qB.Fingerprint,.sl (qB.Where.map l8.v)]),(1002,.cells [.int .i64 jB.Place.Source,.str jB.Place.Path,.int .i64 jB.Place.Time,.sl (jB.Layers.map o5.v),.int .i64 jB.From,.int .i64 jB.To])])) (ih_rule_holds:∀{c_:d9} {jC:List l6} {f_:l5} {s_:l8} {y:Bool},b9x n c_ jC f_ s_=some y→l9 Tryz.prog 42 [d9.v c_,.sl (jC.map l6.v),l5.v f_,l8.v s_] [] (fun r H=>r=.bool y∧H=[])) (s_:List d9) (gB:List l6) (qA:l5) (jA:l8) {Q:Int→Prop} {Q':V→Heap→Prop} (h:Ok (c02 (n+1) s_ gB qA jA) Q) (hQ:∀z,Q z→Q' (.int .i64 z) [(1000,.cells [.fn (.func 77) [.ptr 1001 0,.ptr 1002 0,.ptr 1003 0]]),(1001,.cells [.sl (gB.map l6.v)]),(1002,.cells [.int .i64 qA.Kind,.int .u64 qA.Fingerprint,.sl (qA.Where.map l8.v)]),(1003,.cells [.int .i64 jA.Place.Source,.str jA.Place.Path,.int .i64 jA.Place.Time,.sl (jA.Layers.map o5.v),.int .i64 jA.From,.int .i64 jA.To])]):l9 Tryz.prog 115 [.sl (s_.map d9.v),.fn (.func 81) [.ptr 1000 0]] [(1000,.cells [.fn (.func 77) [.ptr 1001 0,.ptr 1002 0,.ptr 1003 0]]),(1001,.cells [.sl (gB.map l6.v)]),(1002,.cells [.int .i64 qA.Kind,.int .u64 qA.Fingerprint,.sl (qA.Where.map l8.v)]),(1003,.cells [.int .i64 jA.Place.Source,.str jA.Place.Path,.int .i64 jA.Place.Time,.sl (jA.Layers.map o5.v),.int .i64 jA.From,.int .i64 jA.To])] Q':=by
 refine a0s f8z [] [1000,1001,1002,1003] [.t 4] Tryz.func115 fun M=>?_
 simp only [c02] at h
 unfold f8z
 replace h:=tY h
 refine tB ?_
 repeat' (first
 | (exact tZ)
 | ((first|refine a6y h ?_|refine a1i h ?_|refine fork h ?_ ?_|refine a1j h ?_ ?_)<;>clear h<;>intro hc h)
 | (obtain ⟨y,hy,h⟩:=h;have hw:=ih_rule_holds_2 hy;replace hw:=tY hw;(first|refine M.sC hw ?_|refine M.sD hw ?_);clear hw hy;refine tB ?_)
 | (refine M.for1 (b:=d1f) 8 [0,1,7] [1000,1003,1002,1001] (fun x=>[]) (fun x=>[]) [] h ?_ ?_ ?_<;>first
 | (clear h;intro k a x Qn K hK1 hkN1 ha1 h hf;have hl:=a4q (a14 (n:=7) hf.1 rfl);clear hf;have hkd:=kD hkN1;have hkB1:=kB hkN1;have hkI1:=kI (k:=k) (by omega);unfold d1f;replace h:=tY h;refine tK ha1 hkd hkN1 hkB1 hkI1 ?_)
  |(clear h;intro x K h;replace h:=And.left (And.intro h trivial);unfold d1f;replace h:=tY h;refine tB ?_)
  |(clear h;(try refine tB ?_);exact tU0;done))
 | (simp only [ha1])
 | (refine hK1 _ ?_;(try refine tB ?_);refine ⟨_,h,?_⟩;exact tU0;done)
 | (refine tE ?_;(first|rw [M.lok_compU]|rw [M.lokD_compU]);refine tB ?_)
 | (refine tA ?_)
 | fail)
def f8q:MC:=rdc (cT Tryz.prog Tryz.f80 [(1,⟨[],[.c 2 0 [1000,1001,1002,1003] []],[]⟩)] [])
theorem g2w {n:Nat} (ih_rule_holds_1:∀{k_:d9} {p_:List l6} {p__:l5} {kC:l8} {y:Bool},b5l n k_ p_ p__ kC=some y→l9 Tryz.prog 77 [d9.v k_,.ptr 1000 0,.ptr 1001 0,.ptr 1002 0] [(1000,.cells [.sl (p_.map l6.v)]),(1001,.cells [.int .i64 p__.Kind,.int .u64 p__.Fingerprint,.sl (p__.Where.map l8.v)]),(1002,.cells [.int .i64 kC.Place.Source,.str kC.Place.Path,.int .i64 kC.Place.Time,.sl (kC.Layers.map o5.v),.int .i64 kC.From,.int .i64 kC.To])] (fun r H=>r=.bool y∧H=[(1000,.cells [.sl (p_.map l6.v)]),(1001,.cells [.int .i64 p__.Kind,.int .u64 p__.Fingerprint,.sl (p__.Where.map l8.v)]),(1002,.cells [.int .i64 kC.Place.Source,.str kC.Place.Path,.int .i64 kC.Place.Time,.sl (kC.Layers.map o5.v),.int .i64 kC.From,.int .i64 kC.To])])) (ih_rule_holds_2:∀{k_:d9} {qG:List l6} {gD:l5} {qC:l8} {y:Bool},b9z n k_ qG gD qC=some y→l9 Tryz.prog 81 [d9.v k_,.ptr 1000 0] [(1000,.cells [.fn (.func 77) [.ptr 1001 0,.ptr 1002 0,.ptr 1003 0]]),(1001,.cells [.sl (qG.map l6.v)]),(1002,.cells [.int .i64 gD.Kind,.int .u64 gD.Fingerprint,.sl (gD.Where.map l8.v)]),(1003,.cells [.int .i64 qC.Place.Source,.str qC.Place.Path,.int .i64 qC.Place.Time,.sl (qC.Layers.map o5.v),.int .i64 qC.From,.int .i64 qC.To])] (fun r H=>r=.bool y∧H=[(1000,.cells [.fn (.func 77) [.ptr 1001 0,.ptr 1002 0,.ptr 1003 0]]),(1001,.cells [.sl (qG.map l6.v)]),(1002,.cells [.int .i64 gD.Kind,.int .u64 gD.Fingerprint,.sl (gD.Where.map l8.v)]),(1003,.cells [.int .i64 qC.Place.Source,.str qC.Place.Path,.int .i64 qC.Place.Time,.sl (qC.Layers.map o5.v),.int .i64 qC.From,.int .i64 qC.To])])) (ih_slices_IndexFunc_api_Term_api_Term_of_rule_holds_2:∀{s_:List d9} {gB:List l6} {qA:l5} {jA:l8} {y:Int},c02 n s_ gB qA jA=some y→l9 Tryz.prog 115 [.sl (s_.map d9.v),.fn (.func 81) [.ptr 1000 0]] [(1000,.cells [.fn (.func 77) [.ptr 1001 0,.ptr 1002 0,.ptr 1003 0]]),(1001,.cells [.sl (gB.map l6.v)]),(1002,.cells [.int .i64 qA.Kind,.int .u64 qA.Fingerprint,.sl (qA.Where.map l8.v)]),(1003,.cells [.int .i64 jA.Place.Source,.str jA.Place.Path,.int .i64 jA.Place.Time,.sl (jA.Layers.map o5.v),.int .i64 jA.From,.int .i64 jA.To])] (fun r H=>r=.int .i64 y∧H=[(1000,.cells [.fn (.func 77) [.ptr 1001 0,.ptr 1002 0,.ptr 1003 0]]),(1001,.cells [.sl (gB.map l6.v)]),(1002,.cells [.int .i64 qA.Kind,.int .u64 qA.Fingerprint,.sl (qA.Where.map l8.v)]),(1003,.cells [.int .i64 jA.Place.Source,.str jA.Place.Path,.int .i64 jA.Place.Time,.sl (jA.Layers.map o5.v),.int .i64 jA.From,.int .i64 jA.To])])) (ih_slices_ContainsFunc_api_Term_api_Term_of_rule_holds_2:∀{s_:List d9} {gB:List l6} {qA:l5} {jA:l8} {y:Bool},b9w n s_ gB qA jA=some y→l9 Tryz.prog 80 [.sl (s_.map d9.v),.fn (.func 81) [.ptr 1000 0]] [(1000,.cells [.fn (.func 77) [.ptr 1001 0,.ptr 1002 0,.ptr 1003 0]]),(1001,.cells [.sl (gB.map l6.v)]),(1002,.cells [.int .i64 qA.Kind,.int .u64 qA.Fingerprint,.sl (qA.Where.map l8.v)]),(1003,.cells [.int .i64 jA.Place.Source,.str jA.Place.Path,.int .i64 jA.Place.Time,.sl (jA.Layers.map o5.v),.int .i64 jA.From,.int .i64 jA.To])] (fun r H=>r=.bool y∧H=[(1000,.cells [.fn (.func 77) [.ptr 1001 0,.ptr 1002 0,.ptr 1003 0]]),(1001,.cells [.sl (gB.map l6.v)]),(1002,.cells [.int .i64 qA.Kind,.int .u64 qA.Fingerprint,.sl (qA.Where.map l8.v)]),(1003,.cells [.int .i64 jA.Place.Source,.str jA.Place.Path,.int .i64 jA.Place.Time,.sl (jA.Layers.map o5.v),.int .i64 jA.From,.int .i64 jA.To])])) (ih_slices_IndexFunc_api_Term_api_Term_of_rule_holds_1:∀{s_:List d9} {tC:List l6} {qB:l5} {jB:l8} {y:Int},c01 n s_ tC qB jB=some y→l9 Tryz.prog 115 [.sl (s_.map d9.v),.fn (.func 77) [.ptr 1000 0,.ptr 1001 0,.ptr 1002 0]] [(1000,.cells [.sl (tC.map l6.v)]),(1001,.cells [.int .i64 qB.Kind,.int .u64 qB.Fingerprint,.sl (qB.Where.map l8.v)]),(1002,.cells [.int .i64 jB.Place.Source,.str jB.Place.Path,.int .i64 jB.Place.Time,.sl (jB.Layers.map o5.v),.int .i64 jB.From,.int .i64 jB.To])] (fun r H=>r=.int .i64 y∧H=[(1000,.cells [.sl (tC.map l6.v)]),(1001,.cells [.int .i64 qB.Kind,.int .u64 qB.Fingerprint,.sl (qB.Where.map l8.v)]),(1002,.cells [.int .i64 jB.Place.Source,.str jB.Place.Path,.int .i64 jB.Place.Time,.sl (jB.Layers.map o5.v),.int .i64 jB.From,.int .i64 jB.To])])) (ih_slices_ContainsFunc_api_Term_api_Term_of_rule_holds_1:∀{s_:List d9} {tC:List l6} {qB:l5} {jB:l8} {y:Bool},b9v n s_ tC qB jB=some y→l9 Tryz.prog 80 [.sl (s_.map d9.v),.fn (.func 77) [.ptr 1000 0,.ptr 1001 0,.ptr 1002 0]] [(1000,.cells [.sl (tC.map l6.v)]),(1001,.cells [.int .i64 qB.Kind,.int .u64 qB.Fingerprint,.sl (qB.Where.map l8.v)]),(1002,.cells [.int .i64 jB.Place.Source,.str jB.Place.Path,.int .i64 jB.Place.Time,.sl (jB.Layers.map o5.v),.int .i64 jB.From,.int .i64 jB.To])] (fun r H=>r=.bool y∧H=[(1000,.cells [.sl (tC.map l6.v)]),(1001,.cells [.int .i64 qB.Kind,.int .u64 qB.Fingerprint,.sl (qB.Where.map l8.v)]),(1002,.cells [.int .i64 jB.Place.Source,.str jB.Place.Path,.int .i64 jB.Place.Time,.sl (jB.Layers.map o5.v),.int .i64 jB.From,.int .i64 jB.To])])) (ih_rule_holds:∀{c_:d9} {jC:List l6} {f_:l5} {s_:l8} {y:Bool},b9x n c_ jC f_ s_=some y→l9 Tryz.prog 42 [d9.v c_,.sl (jC.map l6.v),l5.v f_,l8.v s_] [] (fun r H=>r=.bool y∧H=[])) (s_:List d9) (gB:List l6) (qA:l5) (jA:l8) {Q:Bool→Prop} {Q':V→Heap→Prop} (h:Ok (b9w (n+1) s_ gB qA jA) Q) (hQ:∀z,Q z→Q' (.bool z) [(1000,.cells [.fn (.func 77) [.ptr 1001 0,.ptr 1002 0,.ptr 1003 0]]),(1001,.cells [.sl (gB.map l6.v)]),(1002,.cells [.int .i64 qA.Kind,.int .u64 qA.Fingerprint,.sl (qA.Where.map l8.v)]),(1003,.cells [.int .i64 jA.Place.Source,.str jA.Place.Path,.int .i64 jA.Place.Time,.sl (jA.Layers.map o5.v),.int .i64 jA.From,.int .i64 jA.To])]):l9 Tryz.prog 80 [.sl (s_.map d9.v),.fn (.func 81) [.ptr 1000 0]] [(1000,.cells [.fn (.func 77) [.ptr 1001 0,.ptr 1002 0,.ptr 1003 0]]),(1001,.cells [.sl (gB.map l6.v)]),(1002,.cells [.int .i64 qA.Kind,.int .u64 qA.Fingerprint,.sl (qA.Where.map l8.v)]),(1003,.cells [.int .i64 jA.Place.Source,.str jA.Place.Path,.int .i64 jA.Place.Time,.sl (jA.Layers.map o5.v),.int .i64 jA.From,.int .i64 jA.To])] Q':=by
 refine a0s f8q [] [1000,1001,1002,1003] [.t 4] Tryz.func80 fun M=>?_
 simp only [b9w] at h
 unfold f8q
 replace h:=tY h
 refine tB ?_
 repeat' (first
 | (exact tZ)
 | ((first|refine a6y h ?_|refine a1i h ?_|refine fork h ?_ ?_|refine a1j h ?_ ?_)<;>clear h<;>intro hc h)
 | (obtain ⟨y,hy,h⟩:=h;have hw:=ih_slices_IndexFunc_api_Term_api_Term_of_rule_holds_2 hy;replace hw:=tY hw;(first|refine M.sC hw ?_|refine M.sD hw ?_);clear hw hy;refine tB ?_)
 | (refine tE ?_;(first|rw [M.lok_compU]|rw [M.lokD_compU]);refine tB ?_)
 | (refine tA ?_)
 | fail)
def a_b:List (Nat×RN):=[(4,⟨[],[.c 5 0 [1000,1001,1002] []],[]⟩)]
@[irreducible] def d1e:MC:=rdc (cK Tryz.prog Tryz.f115 a_b [] 2)
def f8y:MC:=rdc (cT Tryz.prog Tryz.f115 a_b [(2,d1e)])
theorem g34 {n:Nat} (ih_rule_holds_1:∀{k_:d9} {p_:List l6} {p__:l5} {kC:l8} {y:Bool},b5l n k_ p_ p__ kC=some y→l9 Tryz.prog 77 [d9.v k_,.ptr 1000 0,.ptr 1001 0,.ptr 1002 0] [(1000,.cells [.sl (p_.map l6.v)]),(1001,.cells [.int .i64 p__.Kind,.int .u64 p__.Fingerprint,.sl (p__.Where.map l8.v)]),(1002,.cells [.int .i64 kC.Place.Source,.str kC.Place.Path,.int .i64 kC.Place.Time,.sl (kC.Layers.map o5.v),.int .i64 kC.From,.int .i64 kC.To])] (fun r H=>r=.bool y∧H=[(1000,.cells [.sl (p_.map l6.v)]),(1001,.cells [.int .i64 p__.Kind,.int .u64 p__.Fingerprint,.sl (p__.Where.map l8.v)]),(1002,.cells [.int .i64 kC.Place.Source,.str kC.Place.Path,.int .i64 kC.Place.Time,.sl (kC.Layers.map o5.v),.int .i64 kC.From,.int .i64 kC.To])])) (ih_rule_holds_2:∀{k_:d9} {qG:List l6} {gD:l5} {qC:l8} {y:Bool},b9z n k_ qG gD qC=some y→l9 Tryz.prog 81 [d9.v k_,.ptr 1000 0] [(1000,.cells [.fn (.func 77) [.ptr 1001 0,.ptr 1002 0,.ptr 1003 0]]),(1001,.cells [.sl (qG.map l6.v)]),(1002,.cells [.int .i64 gD.Kind,.int .u64 gD.Fingerprint,.sl (gD.Where.map l8.v)]),(1003,.cells [.int .i64 qC.Place.Source,.str qC.Place.Path,.int .i64 qC.Place.Time,.sl (qC.Layers.map o5.v),.int .i64 qC.From,.int .i64 qC.To])] (fun r H=>r=.bool y∧H=[(1000,.cells [.fn (.func 77) [.ptr 1001 0,.ptr 1002 0,.ptr 1003 0]]),(1001,.cells [.sl (qG.map l6.v)]),(1002,.cells [.int .i64 gD.Kind,.int .u64 gD.Fingerprint,.sl (gD.Where.map l8.v)]),(1003,.cells [.int .i64 qC.Place.Source,.str qC.Place.Path,.int .i64 qC.Place.Time,.sl (qC.Layers.map o5.v),.int .i64 qC.From,.int .i64 qC.To])])) (ih_slices_IndexFunc_api_Term_api_Term_of_rule_holds_2:∀{s_:List d9} {gB:List l6} {qA:l5} {jA:l8} {y:Int},c02 n s_ gB qA jA=some y→l9 Tryz.prog 115 [.sl (s_.map d9.v),.fn (.func 81) [.ptr 1000 0]] [(1000,.cells [.fn (.func 77) [.ptr 1001 0,.ptr 1002 0,.ptr 1003 0]]),(1001,.cells [.sl (gB.map l6.v)]),(1002,.cells [.int .i64 qA.Kind,.int .u64 qA.Fingerprint,.sl (qA.Where.map l8.v)]),(1003,.cells [.int .i64 jA.Place.Source,.str jA.Place.Path,.int .i64 jA.Place.Time,.sl (jA.Layers.map o5.v),.int .i64 jA.From,.int .i64 jA.To])] (fun r H=>r=.int .i64 y∧H=[(1000,.cells [.fn (.func 77) [.ptr 1001 0,.ptr 1002 0,.ptr 1003 0]]),(1001,.cells [.sl (gB.map l6.v)]),(1002,.cells [.int .i64 qA.Kind,.int .u64 qA.Fingerprint,.sl (qA.Where.map l8.v)]),(1003,.cells [.int .i64 jA.Place.Source,.str jA.Place.Path,.int .i64 jA.Place.Time,.sl (jA.Layers.map o5.v),.int .i64 jA.From,.int .i64 jA.To])])) (ih_slices_ContainsFunc_api_Term_api_Term_of_rule_holds_2:∀{s_:List d9} {gB:List l6} {qA:l5} {jA:l8} {y:Bool},b9w n s_ gB qA jA=some y→l9 Tryz.prog 80 [.sl (s_.map d9.v),.fn (.func 81) [.ptr 1000 0]] [(1000,.cells [.fn (.func 77) [.ptr 1001 0,.ptr 1002 0,.ptr 1003 0]]),(1001,.cells [.sl (gB.map l6.v)]),(1002,.cells [.int .i64 qA.Kind,.int .u64 qA.Fingerprint,.sl (qA.Where.map l8.v)]),(1003,.cells [.int .i64 jA.Place.Source,.str jA.Place.Path,.int .i64 jA.Place.Time,.sl (jA.Layers.map o5.v),.int .i64 jA.From,.int .i64 jA.To])] (fun r H=>r=.bool y∧H=[(1000,.cells [.fn (.func 77) [.ptr 1001 0,.ptr 1002 0,.ptr 1003 0]]),(1001,.cells [.sl (gB.map l6.v)]),(1002,.cells [.int .i64 qA.Kind,.int .u64 qA.Fingerprint,.sl (qA.Where.map l8.v)]),(1003,.cells [.int .i64 jA.Place.Source,.str jA.Place.Path,.int .i64 jA.Place.Time,.sl (jA.Layers.map o5.v),.int .i64 jA.From,.int .i64 jA.To])])) (ih_slices_IndexFunc_api_Term_api_Term_of_rule_holds_1:∀{s_:List d9} {tC:List l6} {qB:l5} {jB:l8} {y:Int},c01 n s_ tC qB jB=some y→l9 Tryz.prog 115 [.sl (s_.map d9.v),.fn (.func 77) [.ptr 1000 0,.ptr 1001 0,.ptr 1002 0]] [(1000,.cells [.sl (tC.map l6.v)]),(1001,.cells [.int .i64 qB.Kind,.int .u64 qB.Fingerprint,.sl (qB.Where.map l8.v)]),(1002,.cells [.int .i64 jB.Place.Source,.str jB.Place.Path,.int .i64 jB.Place.Time,.sl (jB.Layers.map o5.v),.int .i64 jB.From,.int .i64 jB.To])] (fun r H=>r=.int .i64 y∧H=[(1000,.cells [.sl (tC.map l6.v)]),(1001,.cells [.int .i64 qB.Kind,.int .u64 qB.Fingerprint,.sl (qB.Where.map l8.v)]),(1002,.cells [.int .i64 jB.Place.Source,.str jB.Place.Path,.int .i64 jB.Place.Time,.sl (jB.Layers.map o5.v),.int .i64 jB.From,.int .i64 jB.To])])) (ih_slices_ContainsFunc_api_Term_api_Term_of_rule_holds_1:∀{s_:List d9} {tC:List l6} {qB:l5} {jB:l8} {y:Bool},b9v n s_ tC qB jB=some y→l9 Tryz.prog 80 [.sl (s_.map d9.v),.fn (.func 77) [.ptr 1000 0,.ptr 1001 0,.ptr 1002 0]] [(1000,.cells [.sl (tC.map l6.v)]),(1001,.cells [.int .i64 qB.Kind,.int .u64 qB.Fingerprint,.sl (qB.Where.map l8.v)]),(1002,.cells [.int .i64 jB.Place.Source,.str jB.Place.Path,.int .i64 jB.Place.Time,.sl (jB.Layers.map o5.v),.int .i64 jB.From,.int .i64 jB.To])] (fun r H=>r=.bool y∧H=[(1000,.cells [.sl (tC.map l6.v)]),(1001,.cells [.int .i64 qB.Kind,.int .u64 qB.Fingerprint,.sl (qB.Where.map l8.v)]),(1002,.cells [.int .i64 jB.Place.Source,.str jB.Place.Path,.int .i64 jB.Place.Time,.sl (jB.Layers.map o5.v),.int .i64 jB.From,.int .i64 jB.To])])) (ih_rule_holds:∀{c_:d9} {jC:List l6} {f_:l5} {s_:l8} {y:Bool},b9x n c_ jC f_ s_=some y→l9 Tryz.prog 42 [d9.v c_,.sl (jC.map l6.v),l5.v f_,l8.v s_] [] (fun r H=>r=.bool y∧H=[])) (s_:List d9) (tC:List l6) (qB:l5) (jB:l8) {Q:Int→Prop} {Q':V→Heap→Prop} (h:Ok (c01 (n+1) s_ tC qB jB) Q) (hQ:∀z,Q z→Q' (.int .i64 z) [(1000,.cells [.sl (tC.map l6.v)]),(1001,.cells [.int .i64 qB.Kind,.int .u64 qB.Fingerprint,.sl (qB.Where.map l8.v)]),(1002,.cells [.int .i64 jB.Place.Source,.str jB.Place.Path,.int .i64 jB.Place.Time,.sl (jB.Layers.map o5.v),.int .i64 jB.From,.int .i64 jB.To])]):l9 Tryz.prog 115 [.sl (s_.map d9.v),.fn (.func 77) [.ptr 1000 0,.ptr 1001 0,.ptr 1002 0]] [(1000,.cells [.sl (tC.map l6.v)]),(1001,.cells [.int .i64 qB.Kind,.int .u64 qB.Fingerprint,.sl (qB.Where.map l8.v)]),(1002,.cells [.int .i64 jB.Place.Source,.str jB.Place.Path,.int .i64 jB.Place.Time,.sl (jB.Layers.map o5.v),.int .i64 jB.From,.int .i64 jB.To])] Q':=by
 refine a0s f8y [] [1000,1001,1002] [.t 4] Tryz.func115 fun M=>?_
 simp only [c01] at h
 unfold f8y
 replace h:=tY h
 refine tB ?_
 repeat' (first
 | (exact tZ)
 | ((first|refine a6y h ?_|refine a1i h ?_|refine fork h ?_ ?_|refine a1j h ?_ ?_)<;>clear h<;>intro hc h)
 | (obtain ⟨y,hy,h⟩:=h;have hw:=ih_rule_holds_1 hy;replace hw:=tY hw;(first|refine M.sC hw ?_|refine M.sD hw ?_);clear hw hy;refine tB ?_)
 | (refine M.for1 (b:=d1e) 8 [0,1,7] [1002,1001,1000] (fun x=>[]) (fun x=>[]) [] h ?_ ?_ ?_<;>first
 | (clear h;intro k a x Qn K hK1 hkN1 ha1 h hf;have hl:=a4q (a14 (n:=7) hf.1 rfl);clear hf;have hkd:=kD hkN1;have hkB1:=kB hkN1;have hkI1:=kI (k:=k) (by omega);unfold d1e;replace h:=tY h;refine tK ha1 hkd hkN1 hkB1 hkI1 ?_)
  |(clear h;intro x K h;replace h:=And.left (And.intro h trivial);unfold d1e;replace h:=tY h;refine tB ?_)
  |(clear h;(try refine tB ?_);exact tU0;done))
 | (simp only [ha1])
 | (refine hK1 _ ?_;(try refine tB ?_);refine ⟨_,h,?_⟩;exact tU0;done)
 | (refine tE ?_;(first|rw [M.lok_compU]|rw [M.lokD_compU]);refine tB ?_)
 | (refine tA ?_)
 | fail)
def f8p:MC:=rdc (cT Tryz.prog Tryz.f80 [(1,⟨[],[.c 2 0 [1000,1001,1002] []],[]⟩)] [])
theorem g2v {n:Nat} (ih_rule_holds_1:∀{k_:d9} {p_:List l6} {p__:l5} {kC:l8} {y:Bool},b5l n k_ p_ p__ kC=some y→l9 Tryz.prog 77 [d9.v k_,.ptr 1000 0,.ptr 1001 0,.ptr 1002 0] [(1000,.cells [.sl (p_.map l6.v)]),(1001,.cells [.int .i64 p__.Kind,.int .u64 p__.Fingerprint,.sl (p__.Where.map l8.v)]),(1002,.cells [.int .i64 kC.Place.Source,.str kC.Place.Path,.int .i64 kC.Place.Time,.sl (kC.Layers.map o5.v),.int .i64 kC.From,.int .i64 kC.To])] (fun r H=>r=.bool y∧H=[(1000,.cells [.sl (p_.map l6.v)]),(1001,.cells [.int .i64 p__.Kind,.int .u64 p__.Fingerprint,.sl (p__.Where.map l8.v)]),(1002,.cells [.int .i64 kC.Place.Source,.str kC.Place.Path,.int .i64 kC.Place.Time,.sl (kC.Layers.map o5.v),.int .i64 kC.From,.int .i64 kC.To])])) (ih_rule_holds_2:∀{k_:d9} {qG:List l6} {gD:l5} {qC:l8} {y:Bool},b9z n k_ qG gD qC=some y→l9 Tryz.prog 81 [d9.v k_,.ptr 1000 0] [(1000,.cells [.fn (.func 77) [.ptr 1001 0,.ptr 1002 0,.ptr 1003 0]]),(1001,.cells [.sl (qG.map l6.v)]),(1002,.cells [.int .i64 gD.Kind,.int .u64 gD.Fingerprint,.sl (gD.Where.map l8.v)]),(1003,.cells [.int .i64 qC.Place.Source,.str qC.Place.Path,.int .i64 qC.Place.Time,.sl (qC.Layers.map o5.v),.int .i64 qC.From,.int .i64 qC.To])] (fun r H=>r=.bool y∧H=[(1000,.cells [.fn (.func 77) [.ptr 1001 0,.ptr 1002 0,.ptr 1003 0]]),(1001,.cells [.sl (qG.map l6.v)]),(1002,.cells [.int .i64 gD.Kind,.int .u64 gD.Fingerprint,.sl (gD.Where.map l8.v)]),(1003,.cells [.int .i64 qC.Place.Source,.str qC.Place.Path,.int .i64 qC.Place.Time,.sl (qC.Layers.map o5.v),.int .i64 qC.From,.int .i64 qC.To])])) (ih_slices_IndexFunc_api_Term_api_Term_of_rule_holds_2:∀{s_:List d9} {gB:List l6} {qA:l5} {jA:l8} {y:Int},c02 n s_ gB qA jA=some y→l9 Tryz.prog 115 [.sl (s_.map d9.v),.fn (.func 81) [.ptr 1000 0]] [(1000,.cells [.fn (.func 77) [.ptr 1001 0,.ptr 1002 0,.ptr 1003 0]]),(1001,.cells [.sl (gB.map l6.v)]),(1002,.cells [.int .i64 qA.Kind,.int .u64 qA.Fingerprint,.sl (qA.Where.map l8.v)]),(1003,.cells [.int .i64 jA.Place.Source,.str jA.Place.Path,.int .i64 jA.Place.Time,.sl (jA.Layers.map o5.v),.int .i64 jA.From,.int .i64 jA.To])] (fun r H=>r=.int .i64 y∧H=[(1000,.cells [.fn (.func 77) [.ptr 1001 0,.ptr 1002 0,.ptr 1003 0]]),(1001,.cells [.sl (gB.map l6.v)]),(1002,.cells [.int .i64 qA.Kind,.int .u64 qA.Fingerprint,.sl (qA.Where.map l8.v)]),(1003,.cells [.int .i64 jA.Place.Source,.str jA.Place.Path,.int .i64 jA.Place.Time,.sl (jA.Layers.map o5.v),.int .i64 jA.From,.int .i64 jA.To])])) (ih_slices_ContainsFunc_api_Term_api_Term_of_rule_holds_2:∀{s_:List d9} {gB:List l6} {qA:l5} {jA:l8} {y:Bool},b9w n s_ gB qA jA=some y→l9 Tryz.prog 80 [.sl (s_.map d9.v),.fn (.func 81) [.ptr 1000 0]] [(1000,.cells [.fn (.func 77) [.ptr 1001 0,.ptr 1002 0,.ptr 1003 0]]),(1001,.cells [.sl (gB.map l6.v)]),(1002,.cells [.int .i64 qA.Kind,.int .u64 qA.Fingerprint,.sl (qA.Where.map l8.v)]),(1003,.cells [.int .i64 jA.Place.Source,.str jA.Place.Path,.int .i64 jA.Place.Time,.sl (jA.Layers.map o5.v),.int .i64 jA.From,.int .i64 jA.To])] (fun r H=>r=.bool y∧H=[(1000,.cells [.fn (.func 77) [.ptr 1001 0,.ptr 1002 0,.ptr 1003 0]]),(1001,.cells [.sl (gB.map l6.v)]),(1002,.cells [.int .i64 qA.Kind,.int .u64 qA.Fingerprint,.sl (qA.Where.map l8.v)]),(1003,.cells [.int .i64 jA.Place.Source,.str jA.Place.Path,.int .i64 jA.Place.Time,.sl (jA.Layers.map o5.v),.int .i64 jA.From,.int .i64 jA.To])])) (ih_slices_IndexFunc_api_Term_api_Term_of_rule_holds_1:∀{s_:List d9} {tC:List l6} {qB:l5} {jB:l8} {y:Int},c01 n s_ tC qB jB=some y→l9 Tryz.prog 115 [.sl (s_.map d9.v),.fn (.func 77) [.ptr 1000 0,.ptr 1001 0,.ptr 1002 0]] [(1000,.cells [.sl (tC.map l6.v)]),(1001,.cells [.int .i64 qB.Kind,.int .u64 qB.Fingerprint,.sl (qB.Where.map l8.v)]),(1002,.cells [.int .i64 jB.Place.Source,.str jB.Place.Path,.int .i64 jB.Place.Time,.sl (jB.Layers.map o5.v),.int .i64 jB.From,.int .i64 jB.To])] (fun r H=>r=.int .i64 y∧H=[(1000,.cells [.sl (tC.map l6.v)]),(1001,.cells [.int .i64 qB.Kind,.int .u64 qB.Fingerprint,.sl (qB.Where.map l8.v)]),(1002,.cells [.int .i64 jB.Place.Source,.str jB.Place.Path,.int .i64 jB.Place.Time,.sl (jB.Layers.map o5.v),.int .i64 jB.From,.int .i64 jB.To])])) (ih_slices_ContainsFunc_api_Term_api_Term_of_rule_holds_1:∀{s_:List d9} {tC:List l6} {qB:l5} {jB:l8} {y:Bool},b9v n s_ tC qB jB=some y→l9 Tryz.prog 80 [.sl (s_.map d9.v),.fn (.func 77) [.ptr 1000 0,.ptr 1001 0,.ptr 1002 0]] [(1000,.cells [.sl (tC.map l6.v)]),(1001,.cells [.int .i64 qB.Kind,.int .u64 qB.Fingerprint,.sl (qB.Where.map l8.v)]),(1002,.cells [.int .i64 jB.Place.Source,.str jB.Place.Path,.int .i64 jB.Place.Time,.sl (jB.Layers.map o5.v),.int .i64 jB.From,.int .i64 jB.To])] (fun r H=>r=.bool y∧H=[(1000,.cells [.sl (tC.map l6.v)]),(1001,.cells [.int .i64 qB.Kind,.int .u64 qB.Fingerprint,.sl (qB.Where.map l8.v)]),(1002,.cells [.int .i64 jB.Place.Source,.str jB.Place.Path,.int .i64 jB.Place.Time,.sl (jB.Layers.map o5.v),.int .i64 jB.From,.int .i64 jB.To])])) (ih_rule_holds:∀{c_:d9} {jC:List l6} {f_:l5} {s_:l8} {y:Bool},b9x n c_ jC f_ s_=some y→l9 Tryz.prog 42 [d9.v c_,.sl (jC.map l6.v),l5.v f_,l8.v s_] [] (fun r H=>r=.bool y∧H=[])) (s_:List d9) (tC:List l6) (qB:l5) (jB:l8) {Q:Bool→Prop} {Q':V→Heap→Prop} (h:Ok (b9v (n+1) s_ tC qB jB) Q) (hQ:∀z,Q z→Q' (.bool z) [(1000,.cells [.sl (tC.map l6.v)]),(1001,.cells [.int .i64 qB.Kind,.int .u64 qB.Fingerprint,.sl (qB.Where.map l8.v)]),(1002,.cells [.int .i64 jB.Place.Source,.str jB.Place.Path,.int .i64 jB.Place.Time,.sl (jB.Layers.map o5.v),.int .i64 jB.From,.int .i64 jB.To])]):l9 Tryz.prog 80 [.sl (s_.map d9.v),.fn (.func 77) [.ptr 1000 0,.ptr 1001 0,.ptr 1002 0]] [(1000,.cells [.sl (tC.map l6.v)]),(1001,.cells [.int .i64 qB.Kind,.int .u64 qB.Fingerprint,.sl (qB.Where.map l8.v)]),(1002,.cells [.int .i64 jB.Place.Source,.str jB.Place.Path,.int .i64 jB.Place.Time,.sl (jB.Layers.map o5.v),.int .i64 jB.From,.int .i64 jB.To])] Q':=by
 refine a0s f8p [] [1000,1001,1002] [.t 4] Tryz.func80 fun M=>?_
 simp only [b9v] at h
 unfold f8p
 replace h:=tY h
 refine tB ?_
 repeat' (first
 | (exact tZ)
 | ((first|refine a6y h ?_|refine a1i h ?_|refine fork h ?_ ?_|refine a1j h ?_ ?_)<;>clear h<;>intro hc h)
 | (obtain ⟨y,hy,h⟩:=h;have hw:=ih_slices_IndexFunc_api_Term_api_Term_of_rule_holds_1 hy;replace hw:=tY hw;(first|refine M.sC hw ?_|refine M.sD hw ?_);clear hw hy;refine tB ?_)
 | (refine tE ?_;(first|rw [M.lok_compU]|rw [M.lokD_compU]);refine tB ?_)
 | (refine tA ?_)
 | fail)
@[irreducible] def f5c:List MOp:=rdc (cG Tryz.prog Tryz.f42 [(20,⟨[],[.c 5 0 [5,6,7] []],[]⟩),(22,⟨[],[.c 3 0 [9,5,6,7] []],[]⟩),(23,⟨[],[.c 3 0 [5,6,7] []],[]⟩)] 14 6 17)
def f9c:MC:=rdc (cT Tryz.prog Tryz.f42 [(4,⟨[.gc [4,5,6,19,20,21,22,23,26,27,28,29,30,31,32,33,34]],[],[]⟩),(6,⟨[.gc [4,7]],[],[]⟩),(8,⟨[.gc [4,7]],[],[]⟩),(10,⟨[.gc [4,7]],[],[]⟩),(12,⟨[.gc [4,7]],[],[]⟩),(14,⟨[.gc [4,7,76,77,78,79,80,81,82,83,84,85,86]],[],[.u 6 17 f5c]⟩),(16,⟨[.gc [4,6]],[],[]⟩),(18,⟨[.gc [4,7]],[],[]⟩),(20,⟨[.gc [4,9]],[.c 5 0 [5,6,7] []],[]⟩),(22,⟨[.gc [4,9]],[.c 3 0 [9,5,6,7] []],[]⟩),(23,⟨[.gc [4,9]],[.c 3 0 [5,6,7] []],[]⟩)] [])
theorem g3c {n:Nat} (ih_rule_holds_1:∀{k_:d9} {p_:List l6} {p__:l5} {kC:l8} {y:Bool},b5l n k_ p_ p__ kC=some y→l9 Tryz.prog 77 [d9.v k_,.ptr 1000 0,.ptr 1001 0,.ptr 1002 0] [(1000,.cells [.sl (p_.map l6.v)]),(1001,.cells [.int .i64 p__.Kind,.int .u64 p__.Fingerprint,.sl (p__.Where.map l8.v)]),(1002,.cells [.int .i64 kC.Place.Source,.str kC.Place.Path,.int .i64 kC.Place.Time,.sl (kC.Layers.map o5.v),.int .i64 kC.From,.int .i64 kC.To])] (fun r H=>r=.bool y∧H=[(1000,.cells [.sl (p_.map l6.v)]),(1001,.cells [.int .i64 p__.Kind,.int .u64 p__.Fingerprint,.sl (p__.Where.map l8.v)]),(1002,.cells [.int .i64 kC.Place.Source,.str kC.Place.Path,.int .i64 kC.Place.Time,.sl (kC.Layers.map o5.v),.int .i64 kC.From,.int .i64 kC.To])])) (ih_rule_holds_2:∀{k_:d9} {qG:List l6} {gD:l5} {qC:l8} {y:Bool},b9z n k_ qG gD qC=some y→l9 Tryz.prog 81 [d9.v k_,.ptr 1000 0] [(1000,.cells [.fn (.func 77) [.ptr 1001 0,.ptr 1002 0,.ptr 1003 0]]),(1001,.cells [.sl (qG.map l6.v)]),(1002,.cells [.int .i64 gD.Kind,.int .u64 gD.Fingerprint,.sl (gD.Where.map l8.v)]),(1003,.cells [.int .i64 qC.Place.Source,.str qC.Place.Path,.int .i64 qC.Place.Time,.sl (qC.Layers.map o5.v),.int .i64 qC.From,.int .i64 qC.To])] (fun r H=>r=.bool y∧H=[(1000,.cells [.fn (.func 77) [.ptr 1001 0,.ptr 1002 0,.ptr 1003 0]]),(1001,.cells [.sl (qG.map l6.v)]),(1002,.cells [.int .i64 gD.Kind,.int .u64 gD.Fingerprint,.sl (gD.Where.map l8.v)]),(1003,.cells [.int .i64 qC.Place.Source,.str qC.Place.Path,.int .i64 qC.Place.Time,.sl (qC.Layers.map o5.v),.int .i64 qC.From,.int .i64 qC.To])])) (ih_slices_IndexFunc_api_Term_api_Term_of_rule_holds_2:∀{s_:List d9} {gB:List l6} {qA:l5} {jA:l8} {y:Int},c02 n s_ gB qA jA=some y→l9 Tryz.prog 115 [.sl (s_.map d9.v),.fn (.func 81) [.ptr 1000 0]] [(1000,.cells [.fn (.func 77) [.ptr 1001 0,.ptr 1002 0,.ptr 1003 0]]),(1001,.cells [.sl (gB.map l6.v)]),(1002,.cells [.int .i64 qA.Kind,.int .u64 qA.Fingerprint,.sl (qA.Where.map l8.v)]),(1003,.cells [.int .i64 jA.Place.Source,.str jA.Place.Path,.int .i64 jA.Place.Time,.sl (jA.Layers.map o5.v),.int .i64 jA.From,.int .i64 jA.To])] (fun r H=>r=.int .i64 y∧H=[(1000,.cells [.fn (.func 77) [.ptr 1001 0,.ptr 1002 0,.ptr 1003 0]]),(1001,.cells [.sl (gB.map l6.v)]),(1002,.cells [.int .i64 qA.Kind,.int .u64 qA.Fingerprint,.sl (qA.Where.map l8.v)]),(1003,.cells [.int .i64 jA.Place.Source,.str jA.Place.Path,.int .i64 jA.Place.Time,.sl (jA.Layers.map o5.v),.int .i64 jA.From,.int .i64 jA.To])])) (ih_slices_ContainsFunc_api_Term_api_Term_of_rule_holds_2:∀{s_:List d9} {gB:List l6} {qA:l5} {jA:l8} {y:Bool},b9w n s_ gB qA jA=some y→l9 Tryz.prog 80 [.sl (s_.map d9.v),.fn (.func 81) [.ptr 1000 0]] [(1000,.cells [.fn (.func 77) [.ptr 1001 0,.ptr 1002 0,.ptr 1003 0]]),(1001,.cells [.sl (gB.map l6.v)]),(1002,.cells [.int .i64 qA.Kind,.int .u64 qA.Fingerprint,.sl (qA.Where.map l8.v)]),(1003,.cells [.int .i64 jA.Place.Source,.str jA.Place.Path,.int .i64 jA.Place.Time,.sl (jA.Layers.map o5.v),.int .i64 jA.From,.int .i64 jA.To])] (fun r H=>r=.bool y∧H=[(1000,.cells [.fn (.func 77) [.ptr 1001 0,.ptr 1002 0,.ptr 1003 0]]),(1001,.cells [.sl (gB.map l6.v)]),(1002,.cells [.int .i64 qA.Kind,.int .u64 qA.Fingerprint,.sl (qA.Where.map l8.v)]),(1003,.cells [.int .i64 jA.Place.Source,.str jA.Place.Path,.int .i64 jA.Place.Time,.sl (jA.Layers.map o5.v),.int .i64 jA.From,.int .i64 jA.To])])) (ih_slices_IndexFunc_api_Term_api_Term_of_rule_holds_1:∀{s_:List d9} {tC:List l6} {qB:l5} {jB:l8} {y:Int},c01 n s_ tC qB jB=some y→l9 Tryz.prog 115 [.sl (s_.map d9.v),.fn (.func 77) [.ptr 1000 0,.ptr 1001 0,.ptr 1002 0]] [(1000,.cells [.sl (tC.map l6.v)]),(1001,.cells [.int .i64 qB.Kind,.int .u64 qB.Fingerprint,.sl (qB.Where.map l8.v)]),(1002,.cells [.int .i64 jB.Place.Source,.str jB.Place.Path,.int .i64 jB.Place.Time,.sl (jB.Layers.map o5.v),.int .i64 jB.From,.int .i64 jB.To])] (fun r H=>r=.int .i64 y∧H=[(1000,.cells [.sl (tC.map l6.v)]),(1001,.cells [.int .i64 qB.Kind,.int .u64 qB.Fingerprint,.sl (qB.Where.map l8.v)]),(1002,.cells [.int .i64 jB.Place.Source,.str jB.Place.Path,.int .i64 jB.Place.Time,.sl (jB.Layers.map o5.v),.int .i64 jB.From,.int .i64 jB.To])])) (ih_slices_ContainsFunc_api_Term_api_Term_of_rule_holds_1:∀{s_:List d9} {tC:List l6} {qB:l5} {jB:l8} {y:Bool},b9v n s_ tC qB jB=some y→l9 Tryz.prog 80 [.sl (s_.map d9.v),.fn (.func 77) [.ptr 1000 0,.ptr 1001 0,.ptr 1002 0]] [(1000,.cells [.sl (tC.map l6.v)]),(1001,.cells [.int .i64 qB.Kind,.int .u64 qB.Fingerprint,.sl (qB.Where.map l8.v)]),(1002,.cells [.int .i64 jB.Place.Source,.str jB.Place.Path,.int .i64 jB.Place.Time,.sl (jB.Layers.map o5.v),.int .i64 jB.From,.int .i64 jB.To])] (fun r H=>r=.bool y∧H=[(1000,.cells [.sl (tC.map l6.v)]),(1001,.cells [.int .i64 qB.Kind,.int .u64 qB.Fingerprint,.sl (qB.Where.map l8.v)]),(1002,.cells [.int .i64 jB.Place.Source,.str jB.Place.Path,.int .i64 jB.Place.Time,.sl (jB.Layers.map o5.v),.int .i64 jB.From,.int .i64 jB.To])])) (ih_rule_holds:∀{c_:d9} {jC:List l6} {f_:l5} {s_:l8} {y:Bool},b9x n c_ jC f_ s_=some y→l9 Tryz.prog 42 [d9.v c_,.sl (jC.map l6.v),l5.v f_,l8.v s_] [] (fun r H=>r=.bool y∧H=[])) (c_:d9) (jC:List l6) (f_:l5) (s_:l8) {Q:Bool→Prop} {Q':V→Heap→Prop} (h:Ok (b9x (n+1) c_ jC f_ s_) Q) (hQ:∀z,Q z→Q' (.bool z) []):l9 Tryz.prog 42 [d9.v c_,.sl (jC.map l6.v),l5.v f_,l8.v s_] [] Q':=by
 refine a0s f9c [] [] [.t 8] Tryz.func42 fun M=>?_
 simp only [b9x] at h
 unfold f9c
 replace h:=tY h
 refine tB ?_
 repeat' (first
 | (exact tZ)
 | ((first|refine a6y h ?_|refine a1i h ?_|refine fork h ?_ ?_|refine a1j h ?_ ?_)<;>clear h<;>intro hc h)
 | (obtain ⟨y,hy,h⟩:=h;(first|(with_reducible first|have hw:=e9k.c.w hy|have hw:=f6s.c.w hy)|have hw:=p9 1002 7 (p9 1001 6 (p9 1000 5 (ih_rule_holds_1 hy)))|have hw:=p9 1003 7 (p9 1002 6 (p9 1001 5 (p9 1000 9 (ih_slices_ContainsFunc_api_Term_api_Term_of_rule_holds_2 hy))))|have hw:=p9 1002 7 (p9 1001 6 (p9 1000 5 (ih_slices_ContainsFunc_api_Term_api_Term_of_rule_holds_1 hy))));replace hw:=tY hw;(first|refine M.sC hw ?_|refine M.sD hw ?_);clear hw hy;refine tB ?_)
 | (refine M.gj1 (ms:=f5c) [] [] (fun y=>[(87,.bool y)]) (fun y=>[]) h ?_ ?_<;>first
 | (clear h;intro Qn K hK1 h;unfold f5c;replace h:=tY h;refine tB ?_)
  |(clear h;intro y h;replace h:=tY h;refine tB ?_))
 | (refine hK1 _ ?_;(try refine tB ?_);refine ⟨_,h,?_⟩;exact tU0;done)
 | (refine tE ?_;(first|rw [M.lok_compU]|rw [M.lokD_compU]);refine tB ?_)
 | (refine tA ?_)
 | fail)
theorem b9r:∀n,(∀{k_:d9} {p_:List l6} {p__:l5} {kC:l8} {y:Bool},b5l n k_ p_ p__ kC=some y→l9 Tryz.prog 77 [d9.v k_,.ptr 1000 0,.ptr 1001 0,.ptr 1002 0] [(1000,.cells [.sl (p_.map l6.v)]),(1001,.cells [.int .i64 p__.Kind,.int .u64 p__.Fingerprint,.sl (p__.Where.map l8.v)]),(1002,.cells [.int .i64 kC.Place.Source,.str kC.Place.Path,.int .i64 kC.Place.Time,.sl (kC.Layers.map o5.v),.int .i64 kC.From,.int .i64 kC.To])] (fun r H=>r=.bool y∧H=[(1000,.cells [.sl (p_.map l6.v)]),(1001,.cells [.int .i64 p__.Kind,.int .u64 p__.Fingerprint,.sl (p__.Where.map l8.v)]),(1002,.cells [.int .i64 kC.Place.Source,.str kC.Place.Path,.int .i64 kC.Place.Time,.sl (kC.Layers.map o5.v),.int .i64 kC.From,.int .i64 kC.To])]))∧(∀{k_:d9} {qG:List l6} {gD:l5} {qC:l8} {y:Bool},b9z n k_ qG gD qC=some y→l9 Tryz.prog 81 [d9.v k_,.ptr 1000 0] [(1000,.cells [.fn (.func 77) [.ptr 1001 0,.ptr 1002 0,.ptr 1003 0]]),(1001,.cells [.sl (qG.map l6.v)]),(1002,.cells [.int .i64 gD.Kind,.int .u64 gD.Fingerprint,.sl (gD.Where.map l8.v)]),(1003,.cells [.int .i64 qC.Place.Source,.str qC.Place.Path,.int .i64 qC.Place.Time,.sl (qC.Layers.map o5.v),.int .i64 qC.From,.int .i64 qC.To])] (fun r H=>r=.bool y∧H=[(1000,.cells [.fn (.func 77) [.ptr 1001 0,.ptr 1002 0,.ptr 1003 0]]),(1001,.cells [.sl (qG.map l6.v)]),(1002,.cells [.int .i64 gD.Kind,.int .u64 gD.Fingerprint,.sl (gD.Where.map l8.v)]),(1003,.cells [.int .i64 qC.Place.Source,.str qC.Place.Path,.int .i64 qC.Place.Time,.sl (qC.Layers.map o5.v),.int .i64 qC.From,.int .i64 qC.To])]))∧(∀{s_:List d9} {gB:List l6} {qA:l5} {jA:l8} {y:Int},c02 n s_ gB qA jA=some y→l9 Tryz.prog 115 [.sl (s_.map d9.v),.fn (.func 81) [.ptr 1000 0]] [(1000,.cells [.fn (.func 77) [.ptr 1001 0,.ptr 1002 0,.ptr 1003 0]]),(1001,.cells [.sl (gB.map l6.v)]),(1002,.cells [.int .i64 qA.Kind,.int .u64 qA.Fingerprint,.sl (qA.Where.map l8.v)]),(1003,.cells [.int .i64 jA.Place.Source,.str jA.Place.Path,.int .i64 jA.Place.Time,.sl (jA.Layers.map o5.v),.int .i64 jA.From,.int .i64 jA.To])] (fun r H=>r=.int .i64 y∧H=[(1000,.cells [.fn (.func 77) [.ptr 1001 0,.ptr 1002 0,.ptr 1003 0]]),(1001,.cells [.sl (gB.map l6.v)]),(1002,.cells [.int .i64 qA.Kind,.int .u64 qA.Fingerprint,.sl (qA.Where.map l8.v)]),(1003,.cells [.int .i64 jA.Place.Source,.str jA.Place.Path,.int .i64 jA.Place.Time,.sl (jA.Layers.map o5.v),.int .i64 jA.From,.int .i64 jA.To])]))∧(∀{s_:List d9} {gB:List l6} {qA:l5} {jA:l8} {y:Bool},b9w n s_ gB qA jA=some y→l9 Tryz.prog 80 [.sl (s_.map d9.v),.fn (.func 81) [.ptr 1000 0]] [(1000,.cells [.fn (.func 77) [.ptr 1001 0,.ptr 1002 0,.ptr 1003 0]]),(1001,.cells [.sl (gB.map l6.v)]),(1002,.cells [.int .i64 qA.Kind,.int .u64 qA.Fingerprint,.sl (qA.Where.map l8.v)]),(1003,.cells [.int .i64 jA.Place.Source,.str jA.Place.Path,.int .i64 jA.Place.Time,.sl (jA.Layers.map o5.v),.int .i64 jA.From,.int .i64 jA.To])] (fun r H=>r=.bool y∧H=[(1000,.cells [.fn (.func 77) [.ptr 1001 0,.ptr 1002 0,.ptr 1003 0]]),(1001,.cells [.sl (gB.map l6.v)]),(1002,.cells [.int .i64 qA.Kind,.int .u64 qA.Fingerprint,.sl (qA.Where.map l8.v)]),(1003,.cells [.int .i64 jA.Place.Source,.str jA.Place.Path,.int .i64 jA.Place.Time,.sl (jA.Layers.map o5.v),.int .i64 jA.From,.int .i64 jA.To])]))∧(∀{s_:List d9} {tC:List l6} {qB:l5} {jB:l8} {y:Int},c01 n s_ tC qB jB=some y→l9 Tryz.prog 115 [.sl (s_.map d9.v),.fn (.func 77) [.ptr 1000 0,.ptr 1001 0,.ptr 1002 0]] [(1000,.cells [.sl (tC.map l6.v)]),(1001,.cells [.int .i64 qB.Kind,.int .u64 qB.Fingerprint,.sl (qB.Where.map l8.v)]),(1002,.cells [.int .i64 jB.Place.Source,.str jB.Place.Path,.int .i64 jB.Place.Time,.sl (jB.Layers.map o5.v),.int .i64 jB.From,.int .i64 jB.To])] (fun r H=>r=.int .i64 y∧H=[(1000,.cells [.sl (tC.map l6.v)]),(1001,.cells [.int .i64 qB.Kind,.int .u64 qB.Fingerprint,.sl (qB.Where.map l8.v)]),(1002,.cells [.int .i64 jB.Place.Source,.str jB.Place.Path,.int .i64 jB.Place.Time,.sl (jB.Layers.map o5.v),.int .i64 jB.From,.int .i64 jB.To])]))∧(∀{s_:List d9} {tC:List l6} {qB:l5} {jB:l8} {y:Bool},b9v n s_ tC qB jB=some y→l9 Tryz.prog 80 [.sl (s_.map d9.v),.fn (.func 77) [.ptr 1000 0,.ptr 1001 0,.ptr 1002 0]] [(1000,.cells [.sl (tC.map l6.v)]),(1001,.cells [.int .i64 qB.Kind,.int .u64 qB.Fingerprint,.sl (qB.Where.map l8.v)]),(1002,.cells [.int .i64 jB.Place.Source,.str jB.Place.Path,.int .i64 jB.Place.Time,.sl (jB.Layers.map o5.v),.int .i64 jB.From,.int .i64 jB.To])] (fun r H=>r=.bool y∧H=[(1000,.cells [.sl (tC.map l6.v)]),(1001,.cells [.int .i64 qB.Kind,.int .u64 qB.Fingerprint,.sl (qB.Where.map l8.v)]),(1002,.cells [.int .i64 jB.Place.Source,.str jB.Place.Path,.int .i64 jB.Place.Time,.sl (jB.Layers.map o5.v),.int .i64 jB.From,.int .i64 jB.To])]))∧(∀{c_:d9} {jC:List l6} {f_:l5} {s_:l8} {y:Bool},b9x n c_ jC f_ s_=some y→l9 Tryz.prog 42 [d9.v c_,.sl (jC.map l6.v),l5.v f_,l8.v s_] [] (fun r H=>r=.bool y∧H=[]))
 | 0=>⟨fun hy=>(by simp only [b5l] at hy;cases hy),fun hy=>(by simp only [b9z] at hy;cases hy),fun hy=>(by simp only [c02] at hy;cases hy),fun hy=>(by simp only [b9w] at hy;cases hy),fun hy=>(by simp only [c01] at hy;cases hy),fun hy=>(by simp only [b9v] at hy;cases hy),fun hy=>(by simp only [b9x] at hy;cases hy)⟩
 | n+1=>by
  obtain ⟨ih_rule_holds_1,ih_rule_holds_2,ih_slices_IndexFunc_api_Term_api_Term_of_rule_holds_2,ih_slices_ContainsFunc_api_Term_api_Term_of_rule_holds_2,ih_slices_IndexFunc_api_Term_api_Term_of_rule_holds_1,ih_slices_ContainsFunc_api_Term_api_Term_of_rule_holds_1,ih_rule_holds⟩:=b9r n
  refine ⟨?_,?_,?_,?_,?_,?_,?_⟩
  ·exact fun hy=>g54 ih_rule_holds_1 ih_rule_holds_2 ih_slices_IndexFunc_api_Term_api_Term_of_rule_holds_2 ih_slices_ContainsFunc_api_Term_api_Term_of_rule_holds_2 ih_slices_IndexFunc_api_Term_api_Term_of_rule_holds_1 ih_slices_ContainsFunc_api_Term_api_Term_of_rule_holds_1 ih_rule_holds _ _ _ _ (Q:=(·=_)) ⟨_,hy,rfl⟩ fun|_,rfl=>⟨rfl,rfl⟩
  ·exact fun hy=>g2s ih_rule_holds_1 ih_rule_holds_2 ih_slices_IndexFunc_api_Term_api_Term_of_rule_holds_2 ih_slices_ContainsFunc_api_Term_api_Term_of_rule_holds_2 ih_slices_IndexFunc_api_Term_api_Term_of_rule_holds_1 ih_slices_ContainsFunc_api_Term_api_Term_of_rule_holds_1 ih_rule_holds _ _ _ _ (Q:=(·=_)) ⟨_,hy,rfl⟩ fun|_,rfl=>⟨rfl,rfl⟩
  ·exact fun hy=>g35 ih_rule_holds_1 ih_rule_holds_2 ih_slices_IndexFunc_api_Term_api_Term_of_rule_holds_2 ih_slices_ContainsFunc_api_Term_api_Term_of_rule_holds_2 ih_slices_IndexFunc_api_Term_api_Term_of_rule_holds_1 ih_slices_ContainsFunc_api_Term_api_Term_of_rule_holds_1 ih_rule_holds _ _ _ _ (Q:=(·=_)) ⟨_,hy,rfl⟩ fun|_,rfl=>⟨rfl,rfl⟩
  ·exact fun hy=>g2w ih_rule_holds_1 ih_rule_holds_2 ih_slices_IndexFunc_api_Term_api_Term_of_rule_holds_2 ih_slices_ContainsFunc_api_Term_api_Term_of_rule_holds_2 ih_slices_IndexFunc_api_Term_api_Term_of_rule_holds_1 ih_slices_ContainsFunc_api_Term_api_Term_of_rule_holds_1 ih_rule_holds _ _ _ _ (Q:=(·=_)) ⟨_,hy,rfl⟩ fun|_,rfl=>⟨rfl,rfl⟩
  ·exact fun hy=>g34 ih_rule_holds_1 ih_rule_holds_2 ih_slices_IndexFunc_api_Term_api_Term_of_rule_holds_2 ih_slices_ContainsFunc_api_Term_api_Term_of_rule_holds_2 ih_slices_IndexFunc_api_Term_api_Term_of_rule_holds_1 ih_slices_ContainsFunc_api_Term_api_Term_of_rule_holds_1 ih_rule_holds _ _ _ _ (Q:=(·=_)) ⟨_,hy,rfl⟩ fun|_,rfl=>⟨rfl,rfl⟩
  ·exact fun hy=>g2v ih_rule_holds_1 ih_rule_holds_2 ih_slices_IndexFunc_api_Term_api_Term_of_rule_holds_2 ih_slices_ContainsFunc_api_Term_api_Term_of_rule_holds_2 ih_slices_IndexFunc_api_Term_api_Term_of_rule_holds_1 ih_slices_ContainsFunc_api_Term_api_Term_of_rule_holds_1 ih_rule_holds _ _ _ _ (Q:=(·=_)) ⟨_,hy,rfl⟩ fun|_,rfl=>⟨rfl,rfl⟩
  ·exact fun hy=>g3c ih_rule_holds_1 ih_rule_holds_2 ih_slices_IndexFunc_api_Term_api_Term_of_rule_holds_2 ih_slices_ContainsFunc_api_Term_api_Term_of_rule_holds_2 ih_slices_IndexFunc_api_Term_api_Term_of_rule_holds_1 ih_slices_ContainsFunc_api_Term_api_Term_of_rule_holds_1 ih_rule_holds _ _ _ _ (Q:=(·=_)) ⟨_,hy,rfl⟩ fun|_,rfl=>⟨rfl,rfl⟩
theorem W_1:∀{k_:d9} {p_:List l6} {p__:l5} {kC:l8} {y:Bool},F_1 k_ p_ p__ kC=some y→l9 Tryz.prog 77 [d9.v k_,.ptr 1000 0,.ptr 1001 0,.ptr 1002 0] [(1000,.cells [.sl (p_.map l6.v)]),(1001,.cells [.int .i64 p__.Kind,.int .u64 p__.Fingerprint,.sl (p__.Where.map l8.v)]),(1002,.cells [.int .i64 kC.Place.Source,.str kC.Place.Path,.int .i64 kC.Place.Time,.sl (kC.Layers.map o5.v),.int .i64 kC.From,.int .i64 kC.To])] (fun r H=>r=.bool y∧H=[(1000,.cells [.sl (p_.map l6.v)]),(1001,.cells [.int .i64 p__.Kind,.int .u64 p__.Fingerprint,.sl (p__.Where.map l8.v)]),(1002,.cells [.int .i64 kC.Place.Source,.str kC.Place.Path,.int .i64 kC.Place.Time,.sl (kC.Layers.map o5.v),.int .i64 kC.From,.int .i64 kC.To])]):=fun hy=>by
 obtain ⟨n,hn⟩:=a0n hy
 exact (b9r n).1 hn
instance c94 {k_:d9} {p_:List l6} {p__:l5} {kC:l8}:WI (F_1 k_ p_ p__ kC) Tryz.prog 77 [d9.v k_,.ptr 1000 0,.ptr 1001 0,.ptr 1002 0] [(1000,.cells [.sl (p_.map l6.v)]),(1001,.cells [.int .i64 p__.Kind,.int .u64 p__.Fingerprint,.sl (p__.Where.map l8.v)]),(1002,.cells [.int .i64 kC.Place.Source,.str kC.Place.Path,.int .i64 kC.Place.Time,.sl (kC.Layers.map o5.v),.int .i64 kC.From,.int .i64 kC.To])] (fun y=>.bool y) (fun y=>[(1000,.cells [.sl (p_.map l6.v)]),(1001,.cells [.int .i64 p__.Kind,.int .u64 p__.Fingerprint,.sl (p__.Where.map l8.v)]),(1002,.cells [.int .i64 kC.Place.Source,.str kC.Place.Path,.int .i64 kC.Place.Time,.sl (kC.Layers.map o5.v),.int .i64 kC.From,.int .i64 kC.To])]):=⟨fun Q Q' h hQ=>by obtain ⟨y,hy,hq⟩:=h;exact (W_1 hy).mono fun r H' e=>by rw [e.1,e.2];exact hQ y hq⟩
theorem W_n:∀{k_:d9} {qG:List l6} {gD:l5} {qC:l8} {y:Bool},F_n k_ qG gD qC=some y→l9 Tryz.prog 81 [d9.v k_,.ptr 1000 0] [(1000,.cells [.fn (.func 77) [.ptr 1001 0,.ptr 1002 0,.ptr 1003 0]]),(1001,.cells [.sl (qG.map l6.v)]),(1002,.cells [.int .i64 gD.Kind,.int .u64 gD.Fingerprint,.sl (gD.Where.map l8.v)]),(1003,.cells [.int .i64 qC.Place.Source,.str qC.Place.Path,.int .i64 qC.Place.Time,.sl (qC.Layers.map o5.v),.int .i64 qC.From,.int .i64 qC.To])] (fun r H=>r=.bool y∧H=[(1000,.cells [.fn (.func 77) [.ptr 1001 0,.ptr 1002 0,.ptr 1003 0]]),(1001,.cells [.sl (qG.map l6.v)]),(1002,.cells [.int .i64 gD.Kind,.int .u64 gD.Fingerprint,.sl (gD.Where.map l8.v)]),(1003,.cells [.int .i64 qC.Place.Source,.str qC.Place.Path,.int .i64 qC.Place.Time,.sl (qC.Layers.map o5.v),.int .i64 qC.From,.int .i64 qC.To])]):=fun hy=>by
 obtain ⟨n,hn⟩:=a0n hy
 exact (b9r n).2.1 hn
instance c92 {k_:d9} {qG:List l6} {gD:l5} {qC:l8}:WI (F_n k_ qG gD qC) Tryz.prog 81 [d9.v k_,.ptr 1000 0] [(1000,.cells [.fn (.func 77) [.ptr 1001 0,.ptr 1002 0,.ptr 1003 0]]),(1001,.cells [.sl (qG.map l6.v)]),(1002,.cells [.int .i64 gD.Kind,.int .u64 gD.Fingerprint,.sl (gD.Where.map l8.v)]),(1003,.cells [.int .i64 qC.Place.Source,.str qC.Place.Path,.int .i64 qC.Place.Time,.sl (qC.Layers.map o5.v),.int .i64 qC.From,.int .i64 qC.To])] (fun y=>.bool y) (fun y=>[(1000,.cells [.fn (.func 77) [.ptr 1001 0,.ptr 1002 0,.ptr 1003 0]]),(1001,.cells [.sl (qG.map l6.v)]),(1002,.cells [.int .i64 gD.Kind,.int .u64 gD.Fingerprint,.sl (gD.Where.map l8.v)]),(1003,.cells [.int .i64 qC.Place.Source,.str qC.Place.Path,.int .i64 qC.Place.Time,.sl (qC.Layers.map o5.v),.int .i64 qC.From,.int .i64 qC.To])]):=⟨fun Q Q' h hQ=>by obtain ⟨y,hy,hq⟩:=h;exact (W_n hy).mono fun r H' e=>by rw [e.1,e.2];exact hQ y hq⟩
theorem W_a:∀{s_:List d9} {gB:List l6} {qA:l5} {jA:l8} {y:Int},F_a s_ gB qA jA=some y→l9 Tryz.prog 115 [.sl (s_.map d9.v),.fn (.func 81) [.ptr 1000 0]] [(1000,.cells [.fn (.func 77) [.ptr 1001 0,.ptr 1002 0,.ptr 1003 0]]),(1001,.cells [.sl (gB.map l6.v)]),(1002,.cells [.int .i64 qA.Kind,.int .u64 qA.Fingerprint,.sl (qA.Where.map l8.v)]),(1003,.cells [.int .i64 jA.Place.Source,.str jA.Place.Path,.int .i64 jA.Place.Time,.sl (jA.Layers.map o5.v),.int .i64 jA.From,.int .i64 jA.To])] (fun r H=>r=.int .i64 y∧H=[(1000,.cells [.fn (.func 77) [.ptr 1001 0,.ptr 1002 0,.ptr 1003 0]]),(1001,.cells [.sl (gB.map l6.v)]),(1002,.cells [.int .i64 qA.Kind,.int .u64 qA.Fingerprint,.sl (qA.Where.map l8.v)]),(1003,.cells [.int .i64 jA.Place.Source,.str jA.Place.Path,.int .i64 jA.Place.Time,.sl (jA.Layers.map o5.v),.int .i64 jA.From,.int .i64 jA.To])]):=fun hy=>by
 obtain ⟨n,hn⟩:=a0n hy
 exact (b9r n).2.2.1 hn
instance a4v {s_:List d9} {gB:List l6} {qA:l5} {jA:l8}:WI (F_a s_ gB qA jA) Tryz.prog 115 [.sl (s_.map d9.v),.fn (.func 81) [.ptr 1000 0]] [(1000,.cells [.fn (.func 77) [.ptr 1001 0,.ptr 1002 0,.ptr 1003 0]]),(1001,.cells [.sl (gB.map l6.v)]),(1002,.cells [.int .i64 qA.Kind,.int .u64 qA.Fingerprint,.sl (qA.Where.map l8.v)]),(1003,.cells [.int .i64 jA.Place.Source,.str jA.Place.Path,.int .i64 jA.Place.Time,.sl (jA.Layers.map o5.v),.int .i64 jA.From,.int .i64 jA.To])] (fun y=>.int .i64 y) (fun y=>[(1000,.cells [.fn (.func 77) [.ptr 1001 0,.ptr 1002 0,.ptr 1003 0]]),(1001,.cells [.sl (gB.map l6.v)]),(1002,.cells [.int .i64 qA.Kind,.int .u64 qA.Fingerprint,.sl (qA.Where.map l8.v)]),(1003,.cells [.int .i64 jA.Place.Source,.str jA.Place.Path,.int .i64 jA.Place.Time,.sl (jA.Layers.map o5.v),.int .i64 jA.From,.int .i64 jA.To])]):=⟨fun Q Q' h hQ=>by obtain ⟨y,hy,hq⟩:=h;exact (W_a hy).mono fun r H' e=>by rw [e.1,e.2];exact hQ y hq⟩
theorem W_j:∀{s_:List d9} {gB:List l6} {qA:l5} {jA:l8} {y:Bool},F_j s_ gB qA jA=some y→l9 Tryz.prog 80 [.sl (s_.map d9.v),.fn (.func 81) [.ptr 1000 0]] [(1000,.cells [.fn (.func 77) [.ptr 1001 0,.ptr 1002 0,.ptr 1003 0]]),(1001,.cells [.sl (gB.map l6.v)]),(1002,.cells [.int .i64 qA.Kind,.int .u64 qA.Fingerprint,.sl (qA.Where.map l8.v)]),(1003,.cells [.int .i64 jA.Place.Source,.str jA.Place.Path,.int .i64 jA.Place.Time,.sl (jA.Layers.map o5.v),.int .i64 jA.From,.int .i64 jA.To])] (fun r H=>r=.bool y∧H=[(1000,.cells [.fn (.func 77) [.ptr 1001 0,.ptr 1002 0,.ptr 1003 0]]),(1001,.cells [.sl (gB.map l6.v)]),(1002,.cells [.int .i64 qA.Kind,.int .u64 qA.Fingerprint,.sl (qA.Where.map l8.v)]),(1003,.cells [.int .i64 jA.Place.Source,.str jA.Place.Path,.int .i64 jA.Place.Time,.sl (jA.Layers.map o5.v),.int .i64 jA.From,.int .i64 jA.To])]):=fun hy=>by
 obtain ⟨n,hn⟩:=a0n hy
 exact (b9r n).2.2.2.1 hn
instance a4k {s_:List d9} {gB:List l6} {qA:l5} {jA:l8}:WI (F_j s_ gB qA jA) Tryz.prog 80 [.sl (s_.map d9.v),.fn (.func 81) [.ptr 1000 0]] [(1000,.cells [.fn (.func 77) [.ptr 1001 0,.ptr 1002 0,.ptr 1003 0]]),(1001,.cells [.sl (gB.map l6.v)]),(1002,.cells [.int .i64 qA.Kind,.int .u64 qA.Fingerprint,.sl (qA.Where.map l8.v)]),(1003,.cells [.int .i64 jA.Place.Source,.str jA.Place.Path,.int .i64 jA.Place.Time,.sl (jA.Layers.map o5.v),.int .i64 jA.From,.int .i64 jA.To])] (fun y=>.bool y) (fun y=>[(1000,.cells [.fn (.func 77) [.ptr 1001 0,.ptr 1002 0,.ptr 1003 0]]),(1001,.cells [.sl (gB.map l6.v)]),(1002,.cells [.int .i64 qA.Kind,.int .u64 qA.Fingerprint,.sl (qA.Where.map l8.v)]),(1003,.cells [.int .i64 jA.Place.Source,.str jA.Place.Path,.int .i64 jA.Place.Time,.sl (jA.Layers.map o5.v),.int .i64 jA.From,.int .i64 jA.To])]):=⟨fun Q Q' h hQ=>by obtain ⟨y,hy,hq⟩:=h;exact (W_j hy).mono fun r H' e=>by rw [e.1,e.2];exact hQ y hq⟩
theorem W_b:∀{s_:List d9} {tC:List l6} {qB:l5} {jB:l8} {y:Int},F_b s_ tC qB jB=some y→l9 Tryz.prog 115 [.sl (s_.map d9.v),.fn (.func 77) [.ptr 1000 0,.ptr 1001 0,.ptr 1002 0]] [(1000,.cells [.sl (tC.map l6.v)]),(1001,.cells [.int .i64 qB.Kind,.int .u64 qB.Fingerprint,.sl (qB.Where.map l8.v)]),(1002,.cells [.int .i64 jB.Place.Source,.str jB.Place.Path,.int .i64 jB.Place.Time,.sl (jB.Layers.map o5.v),.int .i64 jB.From,.int .i64 jB.To])] (fun r H=>r=.int .i64 y∧H=[(1000,.cells [.sl (tC.map l6.v)]),(1001,.cells [.int .i64 qB.Kind,.int .u64 qB.Fingerprint,.sl (qB.Where.map l8.v)]),(1002,.cells [.int .i64 jB.Place.Source,.str jB.Place.Path,.int .i64 jB.Place.Time,.sl (jB.Layers.map o5.v),.int .i64 jB.From,.int .i64 jB.To])]):=fun hy=>by
 obtain ⟨n,hn⟩:=a0n hy
 exact (b9r n).2.2.2.2.1 hn
instance a4w {s_:List d9} {tC:List l6} {qB:l5} {jB:l8}:WI (F_b s_ tC qB jB) Tryz.prog 115 [.sl (s_.map d9.v),.fn (.func 77) [.ptr 1000 0,.ptr 1001 0,.ptr 1002 0]] [(1000,.cells [.sl (tC.map l6.v)]),(1001,.cells [.int .i64 qB.Kind,.int .u64 qB.Fingerprint,.sl (qB.Where.map l8.v)]),(1002,.cells [.int .i64 jB.Place.Source,.str jB.Place.Path,.int .i64 jB.Place.Time,.sl (jB.Layers.map o5.v),.int .i64 jB.From,.int .i64 jB.To])] (fun y=>.int .i64 y) (fun y=>[(1000,.cells [.sl (tC.map l6.v)]),(1001,.cells [.int .i64 qB.Kind,.int .u64 qB.Fingerprint,.sl (qB.Where.map l8.v)]),(1002,.cells [.int .i64 jB.Place.Source,.str jB.Place.Path,.int .i64 jB.Place.Time,.sl (jB.Layers.map o5.v),.int .i64 jB.From,.int .i64 jB.To])]):=⟨fun Q Q' h hQ=>by obtain ⟨y,hy,hq⟩:=h;exact (W_b hy).mono fun r H' e=>by rw [e.1,e.2];exact hQ y hq⟩
theorem W_k:∀{s_:List d9} {tC:List l6} {qB:l5} {jB:l8} {y:Bool},F_k s_ tC qB jB=some y→l9 Tryz.prog 80 [.sl (s_.map d9.v),.fn (.func 77) [.ptr 1000 0,.ptr 1001 0,.ptr 1002 0]] [(1000,.cells [.sl (tC.map l6.v)]),(1001,.cells [.int .i64 qB.Kind,.int .u64 qB.Fingerprint,.sl (qB.Where.map l8.v)]),(1002,.cells [.int .i64 jB.Place.Source,.str jB.Place.Path,.int .i64 jB.Place.Time,.sl (jB.Layers.map o5.v),.int .i64 jB.From,.int .i64 jB.To])] (fun r H=>r=.bool y∧H=[(1000,.cells [.sl (tC.map l6.v)]),(1001,.cells [.int .i64 qB.Kind,.int .u64 qB.Fingerprint,.sl (qB.Where.map l8.v)]),(1002,.cells [.int .i64 jB.Place.Source,.str jB.Place.Path,.int .i64 jB.Place.Time,.sl (jB.Layers.map o5.v),.int .i64 jB.From,.int .i64 jB.To])]):=fun hy=>by
 obtain ⟨n,hn⟩:=a0n hy
 exact (b9r n).2.2.2.2.2.1 hn
instance a4l {s_:List d9} {tC:List l6} {qB:l5} {jB:l8}:WI (F_k s_ tC qB jB) Tryz.prog 80 [.sl (s_.map d9.v),.fn (.func 77) [.ptr 1000 0,.ptr 1001 0,.ptr 1002 0]] [(1000,.cells [.sl (tC.map l6.v)]),(1001,.cells [.int .i64 qB.Kind,.int .u64 qB.Fingerprint,.sl (qB.Where.map l8.v)]),(1002,.cells [.int .i64 jB.Place.Source,.str jB.Place.Path,.int .i64 jB.Place.Time,.sl (jB.Layers.map o5.v),.int .i64 jB.From,.int .i64 jB.To])] (fun y=>.bool y) (fun y=>[(1000,.cells [.sl (tC.map l6.v)]),(1001,.cells [.int .i64 qB.Kind,.int .u64 qB.Fingerprint,.sl (qB.Where.map l8.v)]),(1002,.cells [.int .i64 jB.Place.Source,.str jB.Place.Path,.int .i64 jB.Place.Time,.sl (jB.Layers.map o5.v),.int .i64 jB.From,.int .i64 jB.To])]):=⟨fun Q Q' h hQ=>by obtain ⟨y,hy,hq⟩:=h;exact (W_k hy).mono fun r H' e=>by rw [e.1,e.2];exact hQ y hq⟩
theorem W_6:∀{c_:d9} {jC:List l6} {f_:l5} {s_:l8} {y:Bool},F_6 c_ jC f_ s_=some y→l9 Tryz.prog 42 [d9.v c_,.sl (jC.map l6.v),l5.v f_,l8.v s_] [] (fun r H=>r=.bool y∧H=[]):=fun hy=>by
 obtain ⟨n,hn⟩:=a0n hy
 exact (b9r n).2.2.2.2.2.2 hn
instance d3g {c_:d9} {jC:List l6} {f_:l5} {s_:l8}:WI (F_6 c_ jC f_ s_) Tryz.prog 42 [d9.v c_,.sl (jC.map l6.v),l5.v f_,l8.v s_] [] (fun y=>.bool y) (fun y=>[]):=⟨fun Q Q' h hQ=>by obtain ⟨y,hy,hq⟩:=h;exact (W_6 hy).mono fun r H' e=>by rw [e.1,e.2];exact hQ y hq⟩
def g0u (c_:d9) (jC:List l6) (f_:l5) (kH:Int):Option Bool :=
 bif decide (0≤kH) then bif decide (kH<(f_.Where.length:Int)) then (d4t c_).bind fun y3=>bif decide (y3=0) then chk (inb kH f_.Where.length) ((F_6 c_ jC f_ (f_.Where.getD (kH).toNat default)).bind fun y4=>some y4) else some false else some false else some false
instance g3b {c_:d9} {jC:List l6} {f_:l5} {kH:Int}:WJ (g0u c_ jC f_ kH) 22 [d9.v c_,.sl (jC.map l6.v),l5.v f_,.int .i64 kH] .bool:=wX Tryz.func22 (h:=fun _ _ h hQ M=>by unfold g0u at h;exact tX)
@[go_sem] def f7m (k71:Int) (a72:UInt8) (x70:Unit):Option (Fl Unit Bool) :=
 grp ((decide ((a72.toNat:Int)<97)||decide (122<(a72.toNat:Int)))) fun b94=>grp ((b94&&(decide ((a72.toNat:Int)<48)||decide (57<(a72.toNat:Int))))) fun b95=>grp ((b95&&(!decide ((a72.toNat:Int)=45)))) fun b96=>bif b96 then some (.ex false) else some (.nx ())
def e2x (s_:Str):Option Bool :=
 (forL f7m s_ 0 ()).bind fun o=>o.elim (fun x97=>grp ((decide (1≤(s_.length:Int))&&decide ((s_.length:Int)≤40))) fun b100=>some b100) (fun r98=>some r98)
def f9z:List (Nat×RN):=[(4,⟨[],[],[.v 3 5,.v 7 13,.v 15 17]⟩),(7,⟨[],[],[.v 4 7]⟩)]
@[irreducible] def e5r:MC:=rdc (cK Tryz.prog Tryz.f95 f9z [] 2)
instance:LI e5r 8 7 [0,6,7] [6] (fun y:Unit=>[]) (fun y=>[]) []:=⟨⟩
instance g4n {s_:Str}:WJ (e2x s_) 95 [.str s_] .bool:=wX Tryz.func95 f9z [(2,e5r)] (h:=fun _ _ h hQ M=>by unfold e2x at h;exact tX)
def e1c (r_:l7):Option Int :=
 (e2x r_.Name).bind fun y4=>bif (!y4) then some 4 else (d4t r_.When).bind fun y8=>bif (!decide (y8=0)) then some y8 else grp (((!decide (r_.Verdict=1))&&(!decide (r_.Verdict=2)))) fun b12=>bif b12 then some 1 else some 0
instance g4b {r_:l7}:WJ (e1c r_) 59 [l7.v r_] (.int .i64):=wX Tryz.func59 [(6,⟨[.gc [1,18,19,20]],[],[.v 4 7]⟩)] (h:=fun _ _ h hQ M=>by unfold e1c at h;exact tX)
def f0u (o_:l7) (p_:l7):Option Bool :=
 some (decide (o_.Name=p_.Name))
instance g3k {o_ p_:l7}:WI (f0u o_ p_) Tryz.prog 61 [l7.v o_,.ptr 1000 0] [(1000,.cells [.str p_.Name,.int .i64 p_.When.Op,.str p_.When.Text,.int .i64 p_.When.Number,.int .u64 p_.When.Print,.sl (p_.When.Kids.map d9.v),.int .i64 p_.Verdict])] (fun z=>.bool z) (fun z=>[(1000,.cells [.str p_.Name,.int .i64 p_.When.Op,.str p_.When.Text,.int .i64 p_.When.Number,.int .u64 p_.When.Print,.sl (p_.When.Kids.map d9.v),.int .i64 p_.Verdict])]):=wX Tryz.func61 [] [] [] [1000] (h:=fun _ _ h hQ M=>by unfold f0u at h;exact tX)
@[go_sem] def f1g (tC:l7) (k31:Int) (a32:l7) (x30:Unit):Option (Fl Unit Int) :=
 (f0u a32 tC).bind fun y40=>bif y40 then some (.ex k31) else some (.nx ())
def f7u (s_:List l7) (tC:l7):Option Int :=
 (forL (f1g tC) s_ 0 ()).bind fun o=>o.elim (fun x41=>some (-1)) (fun r42=>some r42)
def f9r:List (Nat×RN):=[(4,⟨[],[.c 5 0 [1000] []],[]⟩)]
@[irreducible] def e6a:MC:=rdc (cK Tryz.prog Tryz.f70 f9r [] 2)
instance:LI e6a 8 7 [0,1,7] [1000] (fun y:Unit=>[]) (fun y=>[]) []:=⟨⟩
instance g46 {s_:List l7} {tC:l7}:WI (f7u s_ tC) Tryz.prog 70 [.sl (s_.map l7.v),.fn (.func 61) [.ptr 1000 0]] [(1000,.cells [.str tC.Name,.int .i64 tC.When.Op,.str tC.When.Text,.int .i64 tC.When.Number,.int .u64 tC.When.Print,.sl (tC.When.Kids.map d9.v),.int .i64 tC.Verdict])] (fun z=>.int .i64 z) (fun z=>[(1000,.cells [.str tC.Name,.int .i64 tC.When.Op,.str tC.When.Text,.int .i64 tC.When.Number,.int .u64 tC.When.Print,.sl (tC.When.Kids.map d9.v),.int .i64 tC.Verdict])]):=wX Tryz.func70 f9r [(2,e6a)] [] [1000] (h:=fun _ _ h hQ M=>by unfold f7u at h;exact tX)
def e9r (s_:List l7) (tC:l7):Option Bool :=
 (f7u s_ tC).bind fun y2=>some (decide (0≤y2))
instance g3r {s_:List l7} {tC:l7}:WI (e9r s_ tC) Tryz.prog 60 [.sl (s_.map l7.v),.fn (.func 61) [.ptr 1000 0]] [(1000,.cells [.str tC.Name,.int .i64 tC.When.Op,.str tC.When.Text,.int .i64 tC.When.Number,.int .u64 tC.When.Print,.sl (tC.When.Kids.map d9.v),.int .i64 tC.Verdict])] (fun z=>.bool z) (fun z=>[(1000,.cells [.str tC.Name,.int .i64 tC.When.Op,.str tC.When.Text,.int .i64 tC.When.Number,.int .u64 tC.When.Print,.sl (tC.When.Kids.map d9.v),.int .i64 tC.Verdict])]):=wX Tryz.func60 [(1,⟨[],[.c 2 0 [1000] []],[]⟩)] [] [] [1000] (h:=fun _ _ h hQ M=>by unfold e9r at h;exact tX)
@[go_sem] def e2w (k31:Int) (a32:l7) (x30:Unit):Option (Fl Unit Int) :=
 (e1c a32).bind fun y40=>bif (!decide (y40=0)) then some (.ex y40) else some (.nx ())
@[go_sem] def e2t (l_:List l7) (k73:Int) (a74:l7) (x72:Unit):Option (Fl Unit Int) :=
 chk (inc 0 k73 l_.length) ((e9r (l_.take ((k73).toNat)) a74).bind fun y82=>bif y82 then some (.ex 7) else some (.nx ()))
def d3o (l_:List l7):Option Int :=
 bif decide (40<(l_.length:Int)) then some 3 else (forL e2w l_ 0 ()).bind fun o=>o.elim (fun x41=>(forL (e2t l_) l_ 0 ()).bind fun o=>o.elim (fun x83=>some 0) (fun r84=>some r84)) (fun r42=>some r42)
def f6n:List (Nat×RN):=[(13,⟨[],[.c 4 0 [7] []],[]⟩)]
@[irreducible] def d95:MC:=rdc (cK Tryz.prog Tryz.f33 f6n [] 4)
@[irreducible] def e6b:MC:=rdc (cK Tryz.prog Tryz.f33 f6n [(4,d95)] 11)
instance:LI d95 13 12 [0,11,12] [] (fun y:Unit=>[]) (fun y=>[]) []:=⟨⟩
instance:LI e6b 25 24 [0,23,24] [] (fun y:Unit=>[]) (fun y=>[]) []:=⟨⟩
instance g50 {l_:List l7}:WJ (d3o l_) 33 [.sl (l_.map l7.v)] (.int .i64):=wX Tryz.func33 f6n [(4,d95),(11,e6b)] (h:=fun _ _ h hQ M=>by have:SwA [(1000,7)]:=⟨⟩;unfold d3o at h;exact tX)
set_option maxRecDepth 20000
set_option maxHeartbeats 2000000
structure q8 where
 tF:Str
 jF:Bool
instance:Inhabited q8:=⟨⟨default,default⟩⟩
def q8.v (x:q8):V:=.agg [.str x.tF,.bool x.jF]
attribute [go_sem] q8.v
def e2r (r_:l7) (p_:List l6) (p__:l5) (kC:l8):Option Bool :=
 (F_6 r_.When p_ p__ kC).bind fun y2=>some y2
instance g45 {r_:l7} {p_:List l6} {p__:l5} {kC:l8}:WI (e2r r_ p_ p__ kC) Tryz.prog 71 [l7.v r_,.ptr 1000 0,.ptr 1001 0,.ptr 1002 0] [(1000,.cells [.sl (p_.map l6.v)]),(1001,.cells [.int .i64 p__.Kind,.int .u64 p__.Fingerprint,.sl (p__.Where.map l8.v)]),(1002,.cells [.int .i64 kC.Place.Source,.str kC.Place.Path,.int .i64 kC.Place.Time,.sl (kC.Layers.map o5.v),.int .i64 kC.From,.int .i64 kC.To])] (fun z=>.bool z) (fun z=>[(1000,.cells [.sl (p_.map l6.v)]),(1001,.cells [.int .i64 p__.Kind,.int .u64 p__.Fingerprint,.sl (p__.Where.map l8.v)]),(1002,.cells [.int .i64 kC.Place.Source,.str kC.Place.Path,.int .i64 kC.Place.Time,.sl (kC.Layers.map o5.v),.int .i64 kC.From,.int .i64 kC.To])]):=wX Tryz.func71 [] [] [] [1000,1001,1002] (h:=fun _ _ h hQ M=>by unfold e2r at h;exact tX)
@[go_sem] def e1d (tC:List l6) (qB:l5) (jB:l8) (k31:Int) (a32:l7) (x30:Unit):Option (Fl Unit Int) :=
 (e2r a32 tC qB jB).bind fun y40=>bif y40 then some (.ex k31) else some (.nx ())
def e2v (s_:List l7) (tC:List l6) (qB:l5) (jB:l8):Option Int :=
 (forL (e1d tC qB jB) s_ 0 ()).bind fun o=>o.elim (fun x41=>some (-1)) (fun r42=>some r42)
def f9y:List (Nat×RN):=[(4,⟨[],[.c 5 0 [1000,1001,1002] []],[]⟩)]
@[irreducible] def e6d:MC:=rdc (cK Tryz.prog Tryz.f70 f9y [] 2)
instance:LI e6d 8 7 [0,1,7] [1002,1001,1000] (fun y:Unit=>[]) (fun y=>[]) []:=⟨⟩
instance g4m {s_:List l7} {tC:List l6} {qB:l5} {jB:l8}:WI (e2v s_ tC qB jB) Tryz.prog 70 [.sl (s_.map l7.v),.fn (.func 71) [.ptr 1000 0,.ptr 1001 0,.ptr 1002 0]] [(1000,.cells [.sl (tC.map l6.v)]),(1001,.cells [.int .i64 qB.Kind,.int .u64 qB.Fingerprint,.sl (qB.Where.map l8.v)]),(1002,.cells [.int .i64 jB.Place.Source,.str jB.Place.Path,.int .i64 jB.Place.Time,.sl (jB.Layers.map o5.v),.int .i64 jB.From,.int .i64 jB.To])] (fun z=>.int .i64 z) (fun z=>[(1000,.cells [.sl (tC.map l6.v)]),(1001,.cells [.int .i64 qB.Kind,.int .u64 qB.Fingerprint,.sl (qB.Where.map l8.v)]),(1002,.cells [.int .i64 jB.Place.Source,.str jB.Place.Path,.int .i64 jB.Place.Time,.sl (jB.Layers.map o5.v),.int .i64 jB.From,.int .i64 jB.To])]):=wX Tryz.func70 f9y [(2,e6d)] [] [1000,1001,1002] (h:=fun _ _ h hQ M=>by unfold e2v at h;exact tX)
def e1b (l_:List l7) (jC:List l6) (f_:l5) (s_:l8):Option (Int×Int) :=
 (e2v l_ jC f_ s_).bind fun y2=>bif decide (y2<0) then some (1,(-1)) else chk (inb y2 l_.length) (some ((l_.getD (y2).toNat default).Verdict,y2))
instance g4a {l_:List l7} {jC:List l6} {f_:l5} {s_:l8}:WJ (e1b l_ jC f_ s_) 39 [.sl (l_.map l7.v),.sl (jC.map l6.v),l5.v f_,l8.v s_] fun z=>.tup [.int .i64 z.1,.int .i64 z.2]:=wX Tryz.func39 [(1,⟨[],[.c 2 0 [5,6,7] []],[]⟩),(4,⟨[.gc [0,10]],[],[]⟩)] (h:=fun _ _ h hQ M=>by have:SwA [(1000,5),(1001,6),(1002,7)]:=⟨⟩;unfold e1b at h;exact tX)
def c99 (l_:List l7) (jC:List l6) (f_:l5) (kH:Int):Option (Int×Int) :=
 grp ((decide (kH<0)||decide ((f_.Where.length:Int)≤kH))) fun b7=>bif b7 then some (1,(-1)) else (d3o l_).bind fun y8=>bif (!decide (y8=0)) then some (1,(-1)) else chk (inb kH f_.Where.length) ((e1b l_ jC f_ (f_.Where.getD (kH).toNat default)).bind fun y10=>some (y10.1,y10.2))
instance g4w {l_:List l7} {jC:List l6} {f_:l5} {kH:Int}:WJ (c99 l_ jC f_ kH) 19 [.sl (l_.map l7.v),.sl (jC.map l6.v),l5.v f_,.int .i64 kH] fun z=>.tup [.int .i64 z.1,.int .i64 z.2]:=wX Tryz.func19 [(1,⟨[],[],[.v 3 8]⟩),(3,⟨[.gc [0,1,3,6]],[],[]⟩)] (h:=fun _ _ h hQ M=>by unfold c99 at h;exact tX)
def f7e (s_:Str) (qF:Str):Option Str :=
 (e9s s_ qF).bind fun y4=>bif y4 then chk (a0c ((s_.length:Int) - (qF.length:Int))) (chk (inc 0 ((s_.length:Int) - (qF.length:Int)) s_.length) (some (s_.take ((((s_.length:Int) - (qF.length:Int))).toNat)))) else some s_
instance g3g {s_ qF:Str}:WJ (f7e s_ qF) 89 [.str s_,.str qF] .str:=wX Tryz.func89 (h:=fun _ _ h hQ M=>by unfold f7e at h;exact tX)
def f0t (s_:Str) (qF:Str):Option Str :=
 (f7e s_ qF).bind fun y2=>some y2
instance g3j {s_ qF:Str}:WJ (f0t s_ qF) 56 [.str s_,.str qF] .str:=wX Tryz.func56 (h:=fun _ _ h hQ M=>by unfold f0t at h;exact tX)
def f7t (s_:Str) (gH:Str):Option (Str×Str×Bool) :=
 (ix1 s_ gH).bind fun y4=>bif decide (0≤y4) then chk (inc 0 y4 s_.length) (chk (a0c (y4+(gH.length:Int))) (chk (inc (y4+(gH.length:Int)) (s_.length:Int) s_.length) (some ((s_.take ((y4).toNat)),(s_.drop (((y4+(gH.length:Int))).toNat)),true)))) else some (s_,[],false)
def e69:MC:=rdc (cT Tryz.prog Tryz.f88 [(3,⟨[.gc [0,1,7]],[],[]⟩),(4,⟨[.gc [0]],[],[]⟩)] [])
instance g44 {s_ gH:Str}:WI (f7t s_ gH) Tryz.prog 88 [.str s_,.str gH] [] (fun z=>.tup [.str z.1,.str z.2.1,.bool z.2.2]) (fun z=>[]):=⟨fun Q Q' h hQ=>by
 refine a0s e69 [] [] [.t 4,.t 5,.t 6] Tryz.func88 fun M=>?_
 unfold f7t at h
 unfold e69
 replace h:=tY h
 refine tB ?_
 repeat' (first
 | (exact tZ)
 | ((first|refine a6y h ?_|refine a1i h ?_|refine d1z h ?_|refine d49 h ?_|refine c9o h ?_|refine appG h ?_|refine d4i h ?_|refine fork h ?_ ?_|refine a1j h ?_ ?_)<;>clear h<;>intro hc h)
 | (obtain ⟨y,hy,h⟩:=h;have hw:=g57 hy;replace hw:=tY hw;(first|refine M.sC hw ?_|refine M.sD hw ?_);clear hw hy;refine tB ?_)
 | (refine tE ?_;(first|rw [M.lok_compU]|rw [M.lokD_compU]);refine tB ?_)
 | (refine tA ?_)
 | fail)⟩
def e2q (s_:Str) (gH:Str):Option (Str×Str×Bool) :=
 (f7t s_ gH).bind fun y2=>some (y2.1,y2.2.1,y2.2.2)
instance g43 {s_ gH:Str}:WJ (e2q s_ gH) 55 [.str s_,.str gH] fun z=>.tup [.str z.1,.str z.2.1,.bool z.2.2]:=wX Tryz.func55 (h:=fun _ _ h hQ M=>by unfold e2q at h;exact tX)
def f7d (s_:Str) (kG:Str):Option (Str×Bool) :=
 (e9t s_ kG).bind fun y4=>bif (!y4) then some (s_,false) else chk (inc (kG.length:Int) (s_.length:Int) s_.length) (some ((s_.drop (((kG.length:Int)).toNat)),true))
instance g3f {s_ kG:Str}:WJ (f7d s_ kG) 90 [.str s_,.str kG] fun z=>.tup [.str z.1,.bool z.2]:=wX Tryz.func90 (h:=fun _ _ h hQ M=>by unfold f7d at h;exact tX)
def e1a (s_:Str) (kG:Str):Option (Str×Bool) :=
 (f7d s_ kG).bind fun y2=>some (y2.1,y2.2)
instance g49 {s_ kG:Str}:WJ (e1a s_ kG) 57 [.str s_,.str kG] fun z=>.tup [.str z.1,.bool z.2]:=wX Tryz.func57 (h:=fun _ _ h hQ M=>by unfold e1a at h;exact tX)
def c9a (r_:q8) (s_:Str):Option (Bool×q8) :=
 (e1a r_.tF s_).bind fun y2=>some (y2.2,(q8.mk y2.1 r_.jF))
instance f6x {r_:q8} {s_:Str}:WI (c9a r_ s_) Tryz.prog 91 [.ptr 1000 0,.str s_] [(1000,.cells [.str r_.tF,.bool r_.jF])] (fun z=>.bool z.1) (fun z=>[(1000,.cells [.str z.2.tF,.bool z.2.jF])]):=wX Tryz.func91 [(2,⟨[.gc [0,5,6]],[],[]⟩)] [] [] [1000] (h:=fun _ _ h hQ M=>by unfold c9a at h;exact tX)
def d4u (r_:q8) (s_:Str):Option q8 :=
 (c9a r_ s_).bind fun y2=>bif (!y2.1) then some (q8.mk y2.2.tF true) else some y2.2
instance f6u {r_:q8} {s_:Str}:WI (d4u r_ s_) Tryz.prog 92 [.ptr 1000 0,.str s_] [(1000,.cells [.str r_.tF,.bool r_.jF])] (fun z=>.tup []) (fun z=>[(1000,.cells [.str z.tF,.bool z.jF])]):=wX Tryz.func92 [(0,⟨[],[.c 2 0 [1000] []],[]⟩)] [] [] [1000] (h:=fun _ _ h hQ M=>by unfold d4u at h;exact tX)
def F_w (op_:Int):Option Str := chk (inb op_ [[],[107,105,110,100],[112,97,116,104],[101,110,100,115],[115,111,117,114,99,101],[100,101,112,116,104],[108,101,110,103,116,104],[112,114,105,110,116],[98,101,102,111,114,101],[110,111,116],[97,110,100],[111,114]].length) (some ([[],[107,105,110,100],[112,97,116,104],[101,110,100,115],[115,111,117,114,99,101],[100,101,112,116,104],[108,101,110,103,116,104],[112,114,105,110,116],[98,101,102,111,114,101],[110,111,116],[97,110,100],[111,114]].getD ((op_).toNat) default))
def f8d:MC:=rdc (cT Tryz.prog Tryz.f93 [] [])
instance g02 {op_:Int}:WI (F_w op_) Tryz.prog 93 [.int .i64 op_] [] (fun z=>.str z) (fun z=>[]):=⟨fun Q Q' h hQ=>by
 refine a0s f8d [] [] [.t 2] Tryz.func93 fun M=>?_
 unfold F_w at h
 unfold f8d
 replace h:=tY h
 refine tB ?_
 repeat' (first
 | (exact tZ)
 | ((first|refine a6y h ?_|refine a1i h ?_|refine d1z h ?_|refine d49 h ?_|refine c9o h ?_|refine appG h ?_|refine d4i h ?_|refine fork h ?_ ?_|refine a1j h ?_ ?_)<;>clear h<;>intro hc h)
 | (refine tE4 V.str ?_;(first|rw [M.lok_compU]|rw [M.lokD_compU]|(simp only [V.cells];first|rw [M.lok_comp]|rw [M.lokD_comp]));refine tB ?_)
 | (refine tE ?_;(first|rw [M.lok_compU]|rw [M.lokD_compU]);refine tB ?_)
 | (refine tA ?_)
 | fail)⟩
def e2p (r_:q8):Option (Str×q8) :=
 (b8a r_.tF [48,49,50,51,52,53,54,55,56,57]).bind fun y2=>chk (a0c ((r_.tF.length:Int) - (y2.length:Int))) (chk (inc 0 ((r_.tF.length:Int) - (y2.length:Int)) r_.tF.length) (some ((r_.tF.take ((((r_.tF.length:Int) - (y2.length:Int))).toNat)),(q8.mk y2 r_.jF))))
instance g41 {r_:q8}:WI (e2p r_) Tryz.prog 120 [.ptr 1000 0] [(1000,.cells [.str r_.tF,.bool r_.jF])] (fun z=>.str z.1) (fun z=>[(1000,.cells [.str z.2.tF,.bool z.2.jF])]):=wX Tryz.func120 [(3,⟨[.gc [0,3,4]],[],[]⟩)] [] [] [1000] (h:=fun _ _ h hQ M=>by unfold e2p at h;exact tX)
@[go_sem] def f1f (x409:Int×q8):Option (Fl (Int×q8) (Sum q8 (d9×q8))) :=
 bif decide (x409.1≤8) then (F_w x409.1).bind fun y536=>chk (a1o (y536.length+[32].length)) ((c9a x409.2 (y536++[32])).bind fun y537=>bif (!y537.1) then chk (a0c (x409.1+1)) (some (.nx ((x409.1+1),y537.2))) else jn (α:=Bool) (bif decide (x409.1=1) then some true else bif decide (x409.1=2) then some true else some (decide (x409.1=3))) fun j554=>bif j554 then (d4u y537.2 [34]).bind fun y556=>(e2q y556.tF [34]).bind fun y558=>grp ((y556.jF||(!y558.2.2))) fun b559=>some (.ex (.inr ((d9.mk x409.1 y558.1 0 0 []),(q8.mk y558.2.1 b559)))) else bif decide (x409.1=7) then (e2p y537.2).bind fun y562=>(puE y562.1 10 64).bind fun y563=>grp ((y562.2.jF||(!y563.2))) fun b564=>some (.ex (.inr ((d9.mk x409.1 [] 0 y563.1 []),(q8.mk y562.2.tF b564)))) else (e2p y537.2).bind fun y567=>(c5a y567.1).bind fun y568=>grp ((y567.2.jF||(!y568.2))) fun b569=>some (.ex (.inr ((d9.mk x409.1 [] y568.1 0 []),(q8.mk y567.2.tF b569))))) else some (.ex (.inl x409.2))
def f00 (r_:q8):Option (d9×q8) :=
 (loop f1f (1,r_)).bind fun r570=>Sum.elim (fun u571=>some ((d9.mk 0 [] 0 0 []),(q8.mk u571.tF true))) (fun u572=>some u572) r570
def f6l:List (Nat×RN):=[(3,⟨[.gc [0,2,3,39,40,71,72,92,93]],[],[]⟩),(4,⟨[],[.c 4 0 [1000] []],[]⟩),(5,⟨[.gc [0,2,3,39,40,71,72,92,93]],[],[]⟩),(7,⟨[],[.c 1 0 [1000] []],[]⟩),(8,⟨[.gc [0,2,4,10,11,39,40]],[],[]⟩),(9,⟨[],[],[.v 6 8]⟩),(13,⟨[],[.c 1 0 [1000] []],[]⟩),(15,⟨[.gc [0,2,4,5,6,7,71,72]],[],[]⟩),(16,⟨[.gc [0,2,4,7,71,72]],[],[.v 6 8]⟩),(18,⟨[],[.c 1 0 [1000] []],[]⟩),(19,⟨[.gc [0,2,4,8,9,92,93]],[],[]⟩),(20,⟨[],[],[.v 6 8]⟩)]
@[irreducible] def d8t:MC:=rdc (cK Tryz.prog Tryz.f94 f6l [] 10000013)
@[irreducible] def e68:MC:=rdc (cK Tryz.prog Tryz.f94 f6l [(10000013,d8t)] 2)
instance:LI d8t 0 0 [0,2,4,24] [4,2,1000] (fun y:Bool=>[(44,.bool y)]) (fun y=>[]) []:=⟨⟩
instance:LI e68 0 0 [0,2] [2] (fun y:Int×q8=>[(3,.int .i64 y.1)]) (fun y=>[.o 1000 (.cells [.str y.2.tF,.bool y.2.jF])]) []:=⟨⟩
instance f6v {r_:q8}:WI (f00 r_) Tryz.prog 94 [.ptr 1000 0] [(1000,.cells [.str r_.tF,.bool r_.jF])] (fun z=>d9.v z.1) (fun z=>[(1000,.cells [.str z.2.tF,.bool z.2.jF])]):=wX Tryz.func94 f6l [(10000013,d8t),(2,e68)] [.fzc 2] [1000] (h:=fun _ _ h hQ M=>by unfold f00 at h;exact tX)
def c9e:Nat→q8→Int→Option (d9×q8)
 | 0,_,_=>none
 | n+1,r_,kE =>
 grp ((r_.jF||decide (20<kE))) fun b81=>bif b81 then some ((d9.mk 0 [] 0 0 []),(q8.mk r_.tF true)) else (c9a r_ [110,111,116,32,40]).bind fun y83=>bif y83.1 then chk (a0c (kE+1)) ((c9e n y83.2 (kE+1)).bind fun y85=>(d4u y85.2 [41]).bind fun y87=>some ((d9.mk 9 [] 0 0 [y85.1]),y87)) else (c9a y83.2 [40]).bind fun y89=>bif y89.1 then chk (a0c (kE+1)) ((c9e n y89.2 (kE+1)).bind fun y91=>jn (α:=Int) ((d4v y91.2.tF [32,111,114,32]).bind fun y96=>bif y96 then some 11 else some 10) fun j94=>(loop (fun (x148:Int×(List d9)×q8)=>((F_w x148.1).bind fun y164=>chk (a1o ([32].length+y164.length)) (chk (a1o ((([32]:Str)++y164).length+[32].length)) ((c9a x148.2.2 ((([32]:Str)++y164)++[32])).bind fun y165=>bif y165.1 then chk (a0c (kE+1)) ((c9e n y165.2 (kE+1)).bind fun y166=>chk (room (x148.2.1.length+[y166.1].length) 64) (some (.nx (x148.1,(x148.2.1++[y166.1]),y166.2)))) else some (.ex (x148.1,x148.2.1,y165.2)))):Option (Fl (Int×(List d9)×q8) (Int×(List d9)×q8)))) (j94,[y91.1],y91.2)).bind fun r167=>(d4u r167.2.2 [41]).bind fun y169=>some ((d9.mk r167.1 [] 0 0 r167.2.1),y169)) else (f00 y89.2).bind fun y171=>some (y171.1,y171.2)
def F_9 (r_:q8) (kE:Int):Option (d9×q8):=lim fun n=>c9e n r_ kE
@[irreducible] def d7r:List MOp:=rdc (cG Tryz.prog Tryz.f58 [(4,⟨[],[.c 1 0 [1000] []],[]⟩),(5,⟨[],[.c 3 0 [1000] []],[]⟩),(6,⟨[],[.c 1 0 [1000] []],[]⟩),(8,⟨[],[.c 1 0 [1000] []],[]⟩),(9,⟨[],[.c 3 0 [1000] []],[]⟩),(12,⟨[],[.c 6 0 [1000] []],[]⟩),(13,⟨[],[.c 5 0 [1000] []],[]⟩),(14,⟨[],[.c 1 0 [1000] []],[]⟩),(16,⟨[],[.c 1 0 [1000] []],[]⟩)] 1 5 7)
def a_9:List (Nat×RN):=[(1,⟨[],[],[.u 5 7 d7r]⟩),(2,⟨[.gc [0,4]],[],[]⟩),(4,⟨[],[.c 1 0 [1000] []],[]⟩),(5,⟨[.gc [0,1,4]],[.c 3 0 [1000] []],[]⟩),(6,⟨[],[.c 1 0 [1000] []],[]⟩),(8,⟨[.gc [0,1,4]],[.c 1 0 [1000] []],[]⟩),(9,⟨[],[.c 3 0 [1000] []],[]⟩),(10,⟨[.gc [0,1,4,6]],[],[]⟩),(12,⟨[],[.c 6 0 [1000] []],[]⟩),(13,⟨[],[.c 5 0 [1000] []],[]⟩),(14,⟨[],[.c 1 0 [1000] []],[]⟩),(16,⟨[],[.c 1 0 [1000] []],[]⟩)]
@[irreducible] def d1d:MC:=rdc (cK Tryz.prog Tryz.f58 a_9 [] 12)
@[irreducible] def d8s:MC:=rdc (cK Tryz.prog Tryz.f58 a_9 [(12,d1d)] 11000012)
def f98:MC:=rdc (cT Tryz.prog Tryz.f58 a_9 [(12,d1d),(11000012,d8s)])
theorem g36 {n:Nat} (ih_rule_reader_condition:∀{r_:q8} {kE:Int} {y:d9×q8},c9e n r_ kE=some y→l9 Tryz.prog 58 [.ptr 1000 0,.int .i64 kE] [(1000,.cells [.str r_.tF,.bool r_.jF])] (fun r H=>r=d9.v y.1∧H=[(1000,.cells [.str y.2.tF,.bool y.2.jF])])) (r_:q8) (kE:Int) {Q:d9×q8→Prop} {Q':V→Heap→Prop} (h:Ok (c9e (n+1) r_ kE) Q) (hQ:∀z,Q z→Q' (d9.v z.1) [(1000,.cells [.str z.2.tF,.bool z.2.jF])]):l9 Tryz.prog 58 [.ptr 1000 0,.int .i64 kE] [(1000,.cells [.str r_.tF,.bool r_.jF])] Q':=by
 refine a0s f98 [.fzc 4] [1000] [.c 4 (some 5)] Tryz.func58 fun M=>?_
 simp only [c9e] at h
 unfold f98
 replace h:=tY h
 refine tB ?_
 repeat' (first
 | (exact tZ)
 | ((first|refine a6y h ?_|refine a1i h ?_|refine fork h ?_ ?_|refine a1j h ?_ ?_)<;>clear h<;>intro hc h)
 | (obtain ⟨y,hy,h⟩:=h;(first|with_reducible first|have hw:=f6x.c.w hy|have hw:=ih_rule_reader_condition hy|have hw:=f6u.c.w hy|have hw:=e9k.c.w hy|have hw:=g02.c.w hy|have hw:=f6v.c.w hy);replace hw:=tY hw;(first|refine M.sC hw ?_|refine M.sD hw ?_);clear hw hy;refine tB ?_)
 | (refine M.wh1 (b:=d1d) [0,1,4,6] [6,4] (fun x=>[]) (fun x=>[.p 6 0 [.int .i64 x.1],.p 6 4 [.osl 4100 5 0 x.2.1.length],.o 4100 (.arr 5 (x.2.1.map d9.v)),.o 1000 (.cells [.str x.2.2.tF,.bool x.2.2.jF])]) [.gc [0,1,4,6],.ownC 6 4 4100 5 none] h ?_ ?_<;>first
 | (clear h;intro x Qn K hK1 h;unfold d1d;replace h:=tY h;refine tB ?_)
  |(clear h;(try refine tB ?_);exact tU0;done))
 | (refine M.jn1 (b:=d8s) [0,1,4,6] [6,39,4,1000] (fun y=>[]) (fun y=>[.p 6 0 [.int .i64 y]]) [] h ?_ ?_<;>first
 | (clear h;intro Qn K hK2 h;replace h:=tY h;refine tB ?_)
  |(clear h;intro y h;unfold d8s;replace h:=tY h;refine tB ?_))
 | (refine M.gv1 (ms:=d7r) 15 [13,14] h ?_ ?_<;>first
 | (clear h;intro K hK3;unfold d7r;refine tB ?_)
 | (clear h;intro b h;replace h:=tY h;refine tB ?_))
 | ((first|refine hK1 _ ?_|refine hK2 _ ?_);(try refine tB ?_);refine ⟨_,h,?_⟩;exact tU0;done)
 | (refine hK3 _ ?_;exact tU;done)
 | (refine a9i (fun hc=>?_) (fun hc=>?_))
 | (refine tE ?_;(first|rw [M.lok_compU]|rw [M.lokD_compU]);refine tB ?_)
 | (refine tA ?_)
 | fail)
theorem g0m:∀n,(∀{r_:q8} {kE:Int} {y:d9×q8},c9e n r_ kE=some y→l9 Tryz.prog 58 [.ptr 1000 0,.int .i64 kE] [(1000,.cells [.str r_.tF,.bool r_.jF])] (fun r H=>r=d9.v y.1∧H=[(1000,.cells [.str y.2.tF,.bool y.2.jF])]))
 | 0=>fun hy=>(by simp only [c9e] at hy;cases hy)
 | n+1=>by
  have ih_rule_reader_condition:=@g0m n
  exact fun hy=>g36 ih_rule_reader_condition _ _ (Q:=(·=_)) ⟨_,hy,rfl⟩ fun|_,rfl=>⟨rfl,rfl⟩
theorem W_9:∀{r_:q8} {kE:Int} {y:d9×q8},F_9 r_ kE=some y→l9 Tryz.prog 58 [.ptr 1000 0,.int .i64 kE] [(1000,.cells [.str r_.tF,.bool r_.jF])] (fun r H=>r=d9.v y.1∧H=[(1000,.cells [.str y.2.tF,.bool y.2.jF])]):=fun hy=>by
 obtain ⟨n,hn⟩:=a0n hy
 exact (g0m n) hn
instance b6y {r_:q8} {kE:Int}:WI (F_9 r_ kE) Tryz.prog 58 [.ptr 1000 0,.int .i64 kE] [(1000,.cells [.str r_.tF,.bool r_.jF])] (fun y=>d9.v y.1) (fun y=>[(1000,.cells [.str y.2.tF,.bool y.2.jF])]):=⟨fun Q Q' h hQ=>by obtain ⟨y,hy,hq⟩:=h;exact (W_9 hy).mono fun r H' e=>by rw [e.1,e.2];exact hQ y hq⟩
def e9x (qH:Str):Option (l7×Bool) :=
 (f0t qH [10]).bind fun y3=>(e2q y3 [58]).bind fun y4=>chk (a1o ([58].length+y4.2.1.length)) ((e1a (([58]:Str)++y4.2.1) [58,32,114,101,97,108,32,105,102,32]).bind fun y6=>jn (α:=Bool×Str×l7) (bif (!y6.2) then chk (a1o ([58].length+y4.2.1.length)) ((e1a (([58]:Str)++y4.2.1) [58,32,102,97,108,115,101,32,105,102,32]).bind fun y11=>some (y11.2,y11.1,(l7.mk y4.1 (d9.mk 0 [] 0 0 []) 2))) else some (y4.2.2,y6.1,(l7.mk y4.1 (d9.mk 0 [] 0 0 []) 1))) fun j9=>(F_9 (q8.mk j9.2.1 false) 1).bind fun y13=>bif j9.1 then bif (!y13.2.jF) then some ((l7.mk j9.2.2.Name y13.1 j9.2.2.Verdict),decide (y13.2.tF=[])) else some ((l7.mk j9.2.2.Name y13.1 j9.2.2.Verdict),false) else some ((l7.mk j9.2.2.Name y13.1 j9.2.2.Verdict),false))
def f9v:List (Nat×RN):=[(2,⟨[.gc [2,4,5,6,44,45,46,47,48,51,52,53,54,55]],[],[]⟩),(5,⟨[.gc [2,5,7,44,45,46,47,48,51,52,53,54,55]],[],[]⟩),(8,⟨[],[.c 1 0 [37] []],[]⟩)]
@[irreducible] def e5e:MC:=rdc (cK Tryz.prog Tryz.f32 f9v [] 10000007)
instance:LI e5e 0 0 [2,7] [2] (fun y:Bool×Str×l7=>[(6,.bool y.1),(8,.str y.2.1)]) (fun y=>[.o 7 (.cells [.str y.2.2.Name,.int .i64 y.2.2.When.Op,.str y.2.2.When.Text,.int .i64 y.2.2.When.Number,.int .u64 y.2.2.When.Print,.sl (y.2.2.When.Kids.map d9.v),.int .i64 y.2.2.Verdict])]) []:=⟨⟩
instance g4g {qH:Str}:WJ (e9x qH) 32 [.str qH] fun z=>.tup [l7.v z.1,.bool z.2]:=wX Tryz.func32 f9v [(10000007,e5e)] [.fzc 2] (h:=fun _ _ h hQ M=>by have:SwA [(1000,37)]:=⟨⟩;unfold e9x at h;exact tX)
def c9z:Nat→d9→Option Str
 | 0,_=>none
 | n+1,c_ =>
 jn (α:=Bool) (bif decide (c_.Op=1) then some true else bif decide (c_.Op=2) then some true else some (decide (c_.Op=3))) fun j49=>bif j49 then (F_w c_.Op).bind fun y51=>chk (a1o (y51.length+[32,34].length)) (chk (a1o ((y51++[32,34]).length+c_.Text.length)) (chk (a1o (((y51++[32,34])++c_.Text).length+[34].length)) (some (((y51++[32,34])++c_.Text)++[34])))) else bif decide (c_.Op=7) then (F_w c_.Op).bind fun y54=>chk (a1o (y54.length+[32].length)) ((e79 c_.Print 10).bind fun y55=>chk (a1o ((y54++[32]).length+y55.length)) (some ((y54++[32])++y55))) else bif decide (c_.Op=9) then chk (inb 0 c_.Kids.length) ((c9z n (c_.Kids.getD 0 default)).bind fun y57=>chk (a1o ([110,111,116,32,40].length+y57.length)) (chk (a1o ((([110,111,116,32,40]:Str)++y57).length+[41].length)) (some ((([110,111,116,32,40]:Str)++y57)++[41])))) else jn (α:=Bool) (bif decide (c_.Op=10) then some true else some (decide (c_.Op=11))) fun j58=>bif j58 then (foldL (fun (k88:Int) (a89:d9) (x87:List Str)=>((c9z n a89).bind fun y93=>chk (room (x87.length+[y93].length) 16) (some (x87++[y93])):Option (List Str))) c_.Kids 0 []).bind fun x94=>(F_w c_.Op).bind fun y97=>chk (a1o ([32].length+y97.length)) (chk (a1o ((([32]:Str)++y97).length+[32].length)) ((c7c x94 ((([32]:Str)++y97)++[32])).bind fun y98=>chk (a1o ([40].length+y98.length)) (chk (a1o ((([40]:Str)++y98).length+[41].length)) (some ((([40]:Str)++y98)++[41]))))) else (F_w c_.Op).bind fun y101=>chk (a1o (y101.length+[32].length)) ((c4n c_.Number).bind fun y102=>chk (a1o ((y101++[32]).length+y102.length)) (some ((y101++[32])++y102)))
def F_7 (c_:d9):Option Str:=lim fun n=>c9z n c_
def a_7:List (Nat×RN):=[(12,⟨[],[.k 0 1],[]⟩),(18,⟨[],[],[.n 6 (.fz 55)]⟩)]
@[irreducible] def c4i:MC:=rdc (cK Tryz.prog Tryz.f63 a_7 [] 14)
@[irreducible] def d1c:MC:=rdc (cK Tryz.prog Tryz.f63 a_7 [(14,c4i)] 10000012)
@[irreducible] def d8r:MC:=rdc (cK Tryz.prog Tryz.f63 a_7 [(14,c4i),(10000012,d1c)] 10000005)
def f9b:MC:=rdc (cT Tryz.prog Tryz.f63 a_7 [(14,c4i),(10000012,d1c),(10000005,d8r)])
theorem g3a {n:Nat} (ih_rule_write:∀{c_:d9} {y:Str},c9z n c_=some y→l9 Tryz.prog 63 [d9.v c_] [] (fun r H=>r=.str y∧H=[])) (c_:d9) {Q:Str→Prop} {Q':V→Heap→Prop} (h:Ok (c9z (n+1) c_) Q) (hQ:∀z,Q z→Q' (.str z) []):l9 Tryz.prog 63 [d9.v c_] [] Q':=by
 refine a0s f9b [] [] [.t 2] Tryz.func63 fun M=>?_
 simp only [c9z] at h
 unfold f9b
 replace h:=tY h
 refine tB ?_
 repeat' (first
 | (exact tZ)
 | ((first|refine a6y h ?_|refine a1i h ?_|refine fork h ?_ ?_|refine a1j h ?_ ?_)<;>clear h<;>intro hc h)
 | (obtain ⟨y,hy,h⟩:=h;(first|with_reducible first|have hw:=g02.c.w hy|have hw:=g08 hy|have hw:=ih_rule_write hy|have hw:=g07 hy|have hw:=g06 hy);replace hw:=tY hw;(first|refine M.sC hw ?_|refine M.sD hw ?_);clear hw hy;refine tB ?_)
 | (refine M.fold1 (b:=c4i) 45 [1,43,44] [1] (fun x=>[(3,.osl 2003 1 0 x.length)]) (fun x=>[.o 2003 (.arr 1 (x.map V.str))]) [.gc [1,3,43,44,45],.acc 3 2003 1] h ?_ ?_ ?_<;>first
 | (clear h;intro k a x Qn K hK1 hkN1 ha1 h hf;have hl:=a4q (a14 (n:=44) hf.1 rfl);clear hf;have hkd:=kD hkN1;have hkB1:=kB hkN1;have hkI1:=kI (k:=k) (by omega);unfold c4i;replace h:=tY h;refine tK ha1 hkd hkN1 hkB1 hkI1 ?_)
  |(clear h;intro x K h;replace h:=And.left (And.intro h trivial);unfold c4i;replace h:=tY h;refine tB ?_)
  |(clear h;(try refine tB ?_);exact tU0;done))
 | (refine M.jn1 (b:=d1c) [1] [1] (fun y=>[(39,.bool y)]) (fun y=>[]) [] h ?_ ?_<;>first
 | (clear h;intro Qn K hK2 h;replace h:=tY h;refine tB ?_)
  |(clear h;intro y h;unfold d1c;replace h:=tY h;refine tB ?_))
 | (refine M.jn1 (b:=d8r) [1,7] [1] (fun y=>[(8,.bool y)]) (fun y=>[]) [] h ?_ ?_<;>first
 | (clear h;intro Qn K hK3 h;replace h:=tY h;refine tB ?_)
  |(clear h;intro y h;unfold d8r;replace h:=tY h;refine tB ?_))
 | (simp only [ha1])
 | ((first|refine hK1 _ ?_|refine hK2 _ ?_|refine hK3 _ ?_);(try refine tB ?_);refine ⟨_,h,?_⟩;exact tU0;done)
 | (refine tE ?_;(first|rw [M.lok_compU]|rw [M.lokD_compU]);refine tB ?_)
 | (refine tA ?_)
 | fail)
theorem g0o:∀n,(∀{c_:d9} {y:Str},c9z n c_=some y→l9 Tryz.prog 63 [d9.v c_] [] (fun r H=>r=.str y∧H=[]))
 | 0=>fun hy=>(by simp only [c9z] at hy;cases hy)
 | n+1=>by
  have ih_rule_write:=@g0o n
  exact fun hy=>g3a ih_rule_write _ (Q:=(·=_)) ⟨_,hy,rfl⟩ fun|_,rfl=>⟨rfl,rfl⟩
theorem W_7:∀{c_:d9} {y:Str},F_7 c_=some y→l9 Tryz.prog 63 [d9.v c_] [] (fun r H=>r=.str y∧H=[]):=fun hy=>by
 obtain ⟨n,hn⟩:=a0n hy
 exact (g0o n) hn
instance d3d {c_:d9}:WI (F_7 c_) Tryz.prog 63 [d9.v c_] [] (fun y=>.str y) (fun y=>[]):=⟨fun Q Q' h hQ=>by obtain ⟨y,hy,hq⟩:=h;exact (W_7 hy).mono fun r H' e=>by rw [e.1,e.2];exact hQ y hq⟩
def f1s (k58:Int) (a59:l7) (x57:List UInt8):Option (List UInt8) :=
 jn (α:=Str) (bif decide (a59.Verdict=2) then some [58,32,102,97,108,115,101,32,105,102,32] else some [58,32,114,101,97,108,32,105,102,32]) fun j69=>chk (a1o (a59.Name.length+j69.length)) ((F_7 a59.When).bind fun y70=>chk (a1o ((a59.Name++j69).length+y70.length)) (chk (a1o (((a59.Name++j69)++y70).length+[10].length)) ((bws x57 (((a59.Name++j69)++y70)++[10])).bind fun y71=>some y71)))
def e3d (l_:List l7):Option Str :=
 (foldL f1s l_ 0 ([]:Str)).bind fun x72=>(f5x x72).bind fun y74=>some y74
def f6m:List (Nat×RN):=[(1,⟨[],[.k 0 8],[.n 1 (.bld 3),.n 1 (.ownC 3 1 5003 1 (some 5))]⟩),(8,⟨[],[.c 9 0 [3,4049] [9601]],[]⟩),(10,⟨[],[.c 0 0 [3,4049] []],[]⟩)]
@[irreducible] def d1b:MC:=rdc (cK Tryz.prog Tryz.f34 f6m [] 10000008)
@[irreducible] def d1t:MC:=rdc (cK Tryz.prog Tryz.f34 f6m [(10000008,d1b)] 3)
def e6g:MC:=rdc (cT Tryz.prog Tryz.f34 f6m [(10000008,d1b),(3,d1t)])
instance g4z {l_:List l7}:WI (e3d l_) Tryz.prog 34 [.sl (l_.map l7.v)] [] (fun z=>.str z) (fun z=>[]):=⟨fun Q Q' h hQ=>by
 refine a0s e6g [] [] [.t 2] Tryz.func34 fun M=>?_
 unfold e3d at h
 unfold e6g
 replace h:=tY h
 refine tB ?_
 repeat' (first
 | (exact tZ)
 | ((first|refine a6y h ?_|refine a1i h ?_|refine d1z h ?_|refine d49 h ?_|refine c9o h ?_|refine appG h ?_|refine d4i h ?_|refine fork h ?_ ?_|refine a1j h ?_ ?_)<;>clear h<;>intro hc h)
 | (obtain ⟨y,hy,h⟩:=h;have hw:=p9 1002 9601 (p9 1001 5003 (p9 1000 3 (g05 hy)));replace hw:=tY hw;(first|refine M.sC hw ?_|refine M.sD hw ?_);clear hw hy;refine tB ?_)
 | (obtain ⟨y,hy,h⟩:=h;have hw:=p9 1002 9601 (p9 1001 4049 (p9 1000 3 (g05 hy)));replace hw:=tY hw;(first|refine M.sC hw ?_|refine M.sD hw ?_);clear hw hy;refine tB ?_)
 | (obtain ⟨y,hy,h⟩:=h;(first|have hw:=p9 1001 4049 (p9 1000 3 (g5a hy))|have hw:=W_7 hy);replace hw:=tY hw;(first|refine M.sC hw ?_|refine M.sD hw ?_);clear hw hy;refine tB ?_)
 | (refine M.jn1 (b:=d1b) [3,5,7,8,9] [5,3,4049] (fun y=>[(6,.str y)]) (fun y=>[]) [] h ?_ ?_<;>first
 | (clear h;intro Qn K hK1 h;replace h:=tY h;refine tB ?_)
  |(clear h;intro y h;unfold d1b;replace h:=tY h;refine tB ?_))
 | (refine M.fold1 (b:=d1t) 9 [3,7,8] [3] (fun x=>[]) (fun x=>[.p 3 1 [.osl 4049 1 0 x.length],.o 4049 (.arr 1 (x.map a0a) (some 5))]) [.gc [3,7,8,9],.ownC 3 1 4049 1 none] h ?_ ?_ ?_<;>first
 | (clear h;intro k a x Qn K hK2 hkN2 ha2 h hf;have hl:=a4q (a14 (n:=8) hf.1 rfl);clear hf;have hkd:=kD hkN2;have hkB2:=kB hkN2;have hkI2:=kI (k:=k) (by omega);unfold f1s at h;unfold d1t;replace h:=tY h;refine tK ha2 hkd hkN2 hkB2 hkI2 ?_)
  |(clear h;intro x K h;replace h:=And.left (And.intro h trivial);unfold d1t;replace h:=tY h;refine tB ?_)
  |(clear h;(try refine tB ?_);exact tU0;done))
 | (simp only [ha2])
 | ((first|refine hK1 _ ?_|refine hK2 _ ?_);(try refine tB ?_);refine ⟨_,h,?_⟩;exact tU0;done)
 | (refine tE ?_;(first|rw [M.lok_compU]|rw [M.lokD_compU]);refine tB ?_)
 | (refine tA ?_)
 | fail)⟩
def f0r (k40:Int) (a33:Str) (x32:List l7):Option (Fl (List l7) ((List l7)×Int)) :=
 (e9x a33).bind fun y42=>grp (((!y42.2)||decide ((x32.length:Int)=40))) fun b46=>bif b46 then some (.ex ([],4)) else chk (room (x32.length+[y42.1].length) 88) (some (.nx (x32++[y42.1])))
def f05 (s_:Str):Option ((List l7)×Int) :=
 bif decide (65536<(s_.length:Int)) then some ([],3) else (f5f s_).bind fun y23=>(forL f0r (a1c s_) 0 []).bind fun o=>o.elim (fun x47=>(d3o x47).bind fun y55=>bif (!decide (y55=0)) then some ([],4) else (e3d x47).bind fun y56=>bif (!decide (y56=s_)) then some ([],4) else some (x47,0)) (fun r48=>some r48)
@[irreducible] def d7q:List MOp:=rdc (cG Tryz.prog Tryz.f12 [(3,⟨[],[.k 0 1],[]⟩),(4,⟨[],[.c 1 0 [] [12]],[]⟩)] 7 3 6)
def g01:List (Nat×RN):=[(3,⟨[],[.k 0 1],[]⟩),(4,⟨[],[.c 1 0 [] [12]],[]⟩),(7,⟨[.gc [2,3,4,6,7,22,23,24]],[],[.u 3 6 d7q]⟩),(10,⟨[],[],[.n 1 (.fz 30)]⟩),(12,⟨[.gc [2,3,4]],[],[]⟩),(30000006,⟨[.ownC 4 0 4064 7 none],[],[]⟩)]
@[irreducible] def d8q:MC:=rdc (cK Tryz.prog Tryz.f12 g01 [] 6)
def e6e:MC:=rdc (cT Tryz.prog Tryz.f12 g01 [(6,d8q)])
instance g4v {s_:Str}:WI (f05 s_) Tryz.prog 12 [.str s_] [] (fun z=>.tup [.sl (z.1.map l7.v),.int .i64 z.2]) (fun z=>[]):=⟨fun Q Q' h hQ=>by
 refine a0s e6e [.fzc 2] [] [.c 2 none,.c 3 none] Tryz.func12 fun M=>?_
 unfold f05 at h
 unfold e6e
 replace h:=tY h
 refine tB ?_
 repeat' (first
 | (exact tZ)
 | ((first|refine a6y h ?_|refine a1i h ?_|refine d1z h ?_|refine d49 h ?_|refine c9o h ?_|refine appG h ?_|refine d4i h ?_|refine fork h ?_ ?_|refine a1j h ?_ ?_)<;>clear h<;>intro hc h)
 | (obtain ⟨y,hy,h⟩:=h;(first|have hw:=p9 1900 12 (g56 hy)|have hw:=WI.w hy);replace hw:=tY hw;(first|refine M.sC hw ?_|refine M.sD hw ?_);clear hw hy;refine tB ?_)
 | (refine M.gv1 (ms:=d7q) 25 [22,23,24] h ?_ ?_<;>first
 | (clear h;intro K hK1;unfold d7q;refine tB ?_)
 | (clear h;intro b h;replace h:=tY h;refine tB ?_))
 | (refine M.rforC (b:=d8q) (enc:=fun a=>[.str a]) _ [2,3,4,12] [3,2] (fun x=>[.o 4 (.cells [.osl 4064 7 0 x.length]),.o 4064 (.arr 7 (x.map l7.v))]) [.gc [0,2,3,4,8,9,10,11,12],.ownC 4 0 4064 7 none] h rfl (g58 _ _) ⟨rfl,trivial,rfl,trivial⟩ rfl (fun a=>⟨rfl,rfl⟩) ?_ (f5i rfl) ?_ rfl ?_<;>first
 | (clear h;intro k a x Qn K hK2 hkN2 h hf;clear hf;unfold f0r at h;unfold d8q;replace h:=tY h;refine tB ?_)
  |(clear h;intro x h;replace h:=tY h;refine tB ?_)
  |(clear h;(try refine tB ?_);exact tU0;done))
 | (refine hK1 _ ?_;exact tU;done)
 | (refine hK2 _ ?_;(try refine tB ?_);refine ⟨_,h,?_⟩;exact tU0;done)
 | (refine a9i (fun hc=>?_) (fun hc=>?_))
 | (refine tE ?_;(first|rw [M.lok_compU]|rw [M.lokD_compU]);refine tB ?_)
 | (refine tA ?_)
 | fail)⟩
def e2o:Option Bool :=
 (f05 [100,111,99,115,58,32,102,97,108,115,101,32,105,102,32,112,97,116,104,32,34,100,111,99,115,47,34,10]).bind fun y2=>(c99 y2.1 [] (l5.mk 0 0 [(l8.mk (b0s.mk 0 [100,111,99,115,47,120] 0) [] 0 0)]) 0).bind fun y4=>grp ((decide (y2.2=0)&&decide ((y2.1.length:Int)=1))) fun b8=>grp ((b8&&decide (y4.1=2))) fun b9=>grp ((b9&&decide (y4.2=0))) fun b10=>some b10
instance g40:WJ e2o 15 [] .bool:=wX Tryz.func15 [(2,⟨[],[.k 3 2],[]⟩),(3,⟨[.gc [1,2,3,4,21,22,23,26,27,30,31]],[],[.v 3 6,.v 8 10,.v 12 14]⟩)] (h:=fun _ _ h hQ M=>by unfold e2o at h;exact tX)
structure a06 where
 L:List Int
 at_:Int
instance:Inhabited a06:=⟨⟨default,default⟩⟩
def a06.v (x:a06):V:=.agg [.sl (x.L.map (V.int .i64)),.int .i64 x.at_]
attribute [go_sem] a06.v
def c3f:Nat→Int→Option Str
 | 0,_=>none
 | n+1,n_ =>
 bif decide (n_<10) then some [(u8 (48+((u8 n_).toNat:Int)))] else chk (c4t n_ 10) ((c3f n (n_ / 10)).bind fun y2=>chk (c4t n_ 10) (chk (a1o (y2.length+[(u8 (48+((u8 (n_ % 10)).toNat:Int)))].length)) (some (y2++[(u8 (48+((u8 (n_ % 10)).toNat:Int)))]))))
def F_5 (n_:Int):Option Str:=lim fun n=>c3f n n_
def f9d:MC:=rdc (cT Tryz.prog Tryz.f30 [] [])
theorem g3i {n:Nat} (ih_ref07_Number:∀{n_:Int} {y:Str},c3f n n_=some y→l9 Tryz.prog 30 [.int .i64 n_] [] (fun r H=>r=.str y∧H=[])) (n_:Int) {Q:Str→Prop} {Q':V→Heap→Prop} (h:Ok (c3f (n+1) n_) Q) (hQ:∀z,Q z→Q' (.str z) []):l9 Tryz.prog 30 [.int .i64 n_] [] Q':=by
 refine a0s f9d [] [] [.t 2] Tryz.func30 fun M=>?_
 simp only [c3f] at h
 unfold f9d
 replace h:=tY h
 refine tB ?_
 repeat' (first
 | (exact tZ)
 | ((first|refine a6y h ?_|refine a1i h ?_|refine c9o h ?_|refine fork h ?_ ?_|refine a1j h ?_ ?_)<;>clear h<;>intro hc h)
 | (obtain ⟨y,hy,h⟩:=h;have hw:=ih_ref07_Number hy;replace hw:=tY hw;(first|refine M.sC hw ?_|refine M.sD hw ?_);clear hw hy;refine tB ?_)
 | (refine tE ?_;(first|rw [M.lok_compU]|rw [M.lokD_compU]);refine tB ?_)
 | (refine tA ?_)
 | fail)
theorem g0p:∀n,(∀{n_:Int} {y:Str},c3f n n_=some y→l9 Tryz.prog 30 [.int .i64 n_] [] (fun r H=>r=.str y∧H=[]))
 | 0=>fun hy=>(by simp only [c3f] at hy;cases hy)
 | n+1=>by
  have ih_ref07_Number:=@g0p n
  exact fun hy=>g3i ih_ref07_Number _ (Q:=(·=_)) ⟨_,hy,rfl⟩ fun|_,rfl=>⟨rfl,rfl⟩
theorem W_5:∀{n_:Int} {y:Str},F_5 n_=some y→l9 Tryz.prog 30 [.int .i64 n_] [] (fun r H=>r=.str y∧H=[]):=fun hy=>by
 obtain ⟨n,hn⟩:=a0n hy
 exact (g0p n) hn
instance c95 {n_:Int}:WI (F_5 n_) Tryz.prog 30 [.int .i64 n_] [] (fun y=>.str y) (fun y=>[]):=⟨fun Q Q' h hQ=>by obtain ⟨y,hy,hq⟩:=h;exact (W_5 hy).mono fun r H' e=>by rw [e.1,e.2];exact hQ y hq⟩
def F_3 (t_:a06) (n_:Int):Option (Int×a06) := bif decide ((t_.L.length:Int)≤t_.at_) then some (0,t_) else chk (inb t_.at_ t_.L.length) (chk (a0c (t_.at_+1)) (chk (c4t ((t_.L.getD (t_.at_).toNat default) % 2^16) n_) (some ((((t_.L.getD (t_.at_).toNat default) % 2^16) % n_),(a06.mk t_.L (t_.at_+1))))))
instance g42 {t_:a06} {n_:Int}:WI (F_3 t_ n_) Tryz.prog 17 [.ptr 1000 0,.int .i64 n_] [(1000,.cells [.sl (t_.L.map (V.int .i64)),.int .i64 t_.at_])] (fun z=>.int .i64 z.1) (fun z=>[(1000,.cells [.sl (z.2.L.map (V.int .i64)),.int .i64 z.2.at_])]):=wX Tryz.func17 [(3,⟨[.gc [0,1]],[],[]⟩),(4,⟨[.gc [0,1,5]],[],[]⟩),(5,⟨[.gc [1,5]],[],[]⟩)] [] [] [1000] (h:=fun _ _ h hQ M=>by unfold F_3 at h;exact tX)
def F_y (t_:a06) (a_:Int) (b_:Int):Option (Int×a06) := chk (a0c (b_ - a_)) (chk (a0c ((b_ - a_)+1)) ((F_3 t_ ((b_ - a_)+1)).bind fun y2=>chk (a0c (a_+y2.1)) (some ((a_+y2.1),y2.2))))
instance g2i {t_:a06} {a_ b_:Int}:WI (F_y t_ a_ b_) Tryz.prog 11 [.ptr 1000 0,.int .i64 a_,.int .i64 b_] [(1000,.cells [.sl (t_.L.map (V.int .i64)),.int .i64 t_.at_])] (fun z=>.int .i64 z.1) (fun z=>[(1000,.cells [.sl (z.2.L.map (V.int .i64)),.int .i64 z.2.at_])]):=wX Tryz.func11 [(1,⟨[],[.c 6 0 [1000] []],[]⟩)] [] [] [1000] (h:=fun _ _ h hQ M=>by unfold F_y at h;exact tX)
def b6z:Nat→a06→Int→Option (d9×a06)
 | 0,_,_=>none
 | n+1,t_,kE =>
 (F_y t_ 1 11).bind fun y2=>jn (α:=Int) (grp ((decide (kE≤1)&&decide (9≤y2.1))) fun b7=>bif b7 then chk (a0c (y2.1 - 3)) (some (y2.1 - 3)) else some y2.1) fun j5=>bif decide (j5=1) then (F_3 y2.2 4).bind fun y27=>chk (inb y27.1 [[107,105,110,100,48],[107,105,110,100,49],[112,108,97,105,110,48],[110,111,110,101]].length) (some ((d9.mk j5 ([[107,105,110,100,48],[107,105,110,100,49],[112,108,97,105,110,48],[110,111,110,101]].getD ((y27.1).toNat) default) 0 0 []),y27.2)) else jn (α:=Bool) (bif decide (j5=2) then some true else some (decide (j5=3))) fun j28=>bif j28 then (F_3 y2.2 6).bind fun y29=>chk (inb y29.1 [[97],[49,58],[102,48],[100,111,99,115,47],[33,105,110],[50]].length) (some ((d9.mk j5 ([[97],[49,58],[102,48],[100,111,99,115,47],[33,105,110],[50]].getD ((y29.1).toNat) default) 0 0 []),y29.2)) else bif decide (j5=7) then (F_3 y2.2 4).bind fun y30=>some ((d9.mk j5 [] 0 (IntKind.wrap .u64 y30.1) []),y30.2) else bif decide (j5=9) then chk (a0c (kE - 1)) ((b6z n y2.2 (kE - 1)).bind fun y31=>some ((d9.mk j5 [] 0 0 [y31.1]),y31.2)) else jn (α:=Bool) (bif decide (j5=10) then some true else some (decide (j5=11))) fun j32=>bif j32 then (F_y y2.2 2 3).bind fun y34=>(loop (fun (x41:Int×Int×(List d9)×a06)=>(bif decide (0<x41.1) then chk (a0c (kE - 1)) ((b6z n x41.2.2.2 (kE - 1)).bind fun y45=>chk (room (x41.2.2.1.length+[y45.1].length) 64) (chk (a0c (x41.1 - 1)) (some (.nx ((x41.1 - 1),x41.2.1,(x41.2.2.1++[y45.1]),y45.2))))) else some (.ex (x41.2.1,x41.2.2.1,x41.2.2.2)):Option (Fl (Int×Int×(List d9)×a06) (Int×(List d9)×a06)))) (y34.1,j5,[],y34.2)).bind fun r46=>some ((d9.mk r46.1 [] 0 0 r46.2.1),r46.2.2) else (F_3 y2.2 8).bind fun y47=>some ((d9.mk j5 [] y47.1 0 []),y47.2)
def F_0 (t_:a06) (kE:Int):Option (d9×a06):=lim fun n=>b6z n t_ kE
@[irreducible] def d7p:List MOp:=rdc (cG Tryz.prog Tryz.f21 [(1,⟨[],[.c 1 0 [1000] []],[]⟩),(4,⟨[],[.k 1 1],[]⟩),(6,⟨[],[.c 1 0 [1000] []],[]⟩),(8,⟨[],[.c 2 0 [1000] []],[]⟩),(11,⟨[],[.c 2 0 [1000] []],[]⟩),(13,⟨[],[.c 1 0 [1000] []],[]⟩),(15,⟨[],[.c 3 0 [1000] []],[]⟩),(18,⟨[],[.c 1 0 [1000] []],[]⟩),(21,⟨[],[.c 5 0 [1000] []],[]⟩)] 2 3 5)
def a_0:List (Nat×RN):=[(1,⟨[],[.c 1 0 [1000] []],[]⟩),(2,⟨[],[],[.u 3 5 d7p]⟩),(4,⟨[],[.k 1 1],[]⟩),(6,⟨[],[.c 1 0 [1000] []],[]⟩),(8,⟨[],[.c 2 0 [1000] []],[]⟩),(11,⟨[],[.c 2 0 [1000] []],[]⟩),(13,⟨[],[.c 1 0 [1000] []],[]⟩),(15,⟨[],[.c 3 0 [1000] []],[]⟩),(18,⟨[],[.c 1 0 [1000] []],[]⟩),(20,⟨[.gc [0,1,4,6,7]],[],[]⟩),(21,⟨[],[.c 5 0 [1000] []],[]⟩)]
@[irreducible] def c4h:MC:=rdc (cK Tryz.prog Tryz.f21 a_0 [] 19)
@[irreducible] def c6x:MC:=rdc (cK Tryz.prog Tryz.f21 a_0 [(19,c4h)] 10000018)
@[irreducible] def d1a:MC:=rdc (cK Tryz.prog Tryz.f21 a_0 [(19,c4h),(10000018,c6x)] 10000011)
@[irreducible] def d8p:MC:=rdc (cK Tryz.prog Tryz.f21 a_0 [(19,c4h),(10000018,c6x),(10000011,d1a)] 10000004)
def f9h:MC:=rdc (cT Tryz.prog Tryz.f21 a_0 [(19,c4h),(10000018,c6x),(10000011,d1a),(10000004,d8p)])
theorem g55 {n:Nat} (ih_made_Term:∀{t_:a06} {kE:Int} {y:d9×a06},b6z n t_ kE=some y→l9 Tryz.prog 21 [.ptr 1000 0,.int .i64 kE] [(1000,.cells [.sl (t_.L.map (V.int .i64)),.int .i64 t_.at_])] (fun r H=>r=d9.v y.1∧H=[(1000,.cells [.sl (y.2.L.map (V.int .i64)),.int .i64 y.2.at_])])) (t_:a06) (kE:Int) {Q:d9×a06→Prop} {Q':V→Heap→Prop} (h:Ok (b6z (n+1) t_ kE) Q) (hQ:∀z,Q z→Q' (d9.v z.1) [(1000,.cells [.sl (z.2.L.map (V.int .i64)),.int .i64 z.2.at_])]):l9 Tryz.prog 21 [.ptr 1000 0,.int .i64 kE] [(1000,.cells [.sl (t_.L.map (V.int .i64)),.int .i64 t_.at_])] Q':=by
 refine a0s f9h [.fzc 4] [1000] [.c 4 (some 5)] Tryz.func21 fun M=>?_
 simp only [b6z] at h
 unfold f9h
 replace h:=tY h
 refine tB ?_
 repeat' (first
 | (exact tZ)
 | ((first|refine a6y h ?_|refine a1i h ?_|refine d1z h ?_|refine fork h ?_ ?_|refine a1j h ?_ ?_)<;>clear h<;>intro hc h)
 | (obtain ⟨y,hy,h⟩:=h;(first|with_reducible first|have hw:=g2i.c.w hy|have hw:=g42.c.w hy|have hw:=ih_made_Term hy);replace hw:=tY hw;(first|refine M.sC hw ?_|refine M.sD hw ?_);clear hw hy;refine tB ?_)
 | (refine M.gv1 (ms:=d7p) 15 [13,14] h ?_ ?_<;>first
 | (clear h;intro K hK1;unfold d7p;refine tB ?_)
 | (clear h;intro b h;replace h:=tY h;refine tB ?_))
 | (refine M.wh1 (b:=c4h) [0,1,4,6] [6,4] (fun x=>[(7,.int .i64 x.1)]) (fun x=>[.p 6 0 [.int .i64 x.2.1],.p 6 4 [.osl 4100 5 0 x.2.2.1.length],.o 4100 (.arr 5 (x.2.2.1.map d9.v)),.o 1000 (.cells [.sl (x.2.2.2.L.map (V.int .i64)),.int .i64 x.2.2.2.at_])]) [.gc [0,1,4,6,7],.ownC 6 4 4100 5 none] h ?_ ?_<;>first
 | (clear h;intro x Qn K hK2 h;unfold c4h;replace h:=tY h;refine tB ?_)
  |(clear h;(try refine tB ?_);exact tU0;done))
 | (refine M.jn1 (b:=c6x) [0,1,4,6] [6,4,1000] (fun y=>[(55,.bool y)]) (fun y=>[]) [] h ?_ ?_<;>first
 | (clear h;intro Qn K hK3 h;replace h:=tY h;refine tB ?_)
  |(clear h;intro y h;unfold c6x;replace h:=tY h;refine tB ?_))
 | (refine M.jn1 (b:=d1a) [0,1,4,6,20] [6,4,1000] (fun y=>[(32,.bool y)]) (fun y=>[]) [] h ?_ ?_<;>first
 | (clear h;intro Qn K hK4 h;replace h:=tY h;refine tB ?_)
  |(clear h;intro y h;unfold d1a;replace h:=tY h;refine tB ?_))
 | (refine M.jn1 (b:=d8p) [0,1,4] [4,1000] (fun y=>[(5,.int .i64 y)]) (fun y=>[]) [] h ?_ ?_<;>first
 | (clear h;intro Qn K hK5 h;replace h:=tY h;refine tB ?_)
  |(clear h;intro y h;unfold d8p;replace h:=tY h;refine tB ?_))
 | (refine hK1 _ ?_;exact tU;done)
 | ((first|refine hK2 _ ?_|refine hK3 _ ?_|refine hK4 _ ?_|refine hK5 _ ?_);(try refine tB ?_);refine ⟨_,h,?_⟩;exact tU0;done)
 | (refine a9i (fun hc=>?_) (fun hc=>?_))
 | (refine tE4 V.str ?_;(first|rw [M.lok_compU]|rw [M.lokD_compU]|(simp only [V.cells];first|rw [M.lok_comp]|rw [M.lokD_comp]));refine tB ?_)
 | (refine tE ?_;(first|rw [M.lok_compU]|rw [M.lokD_compU]);refine tB ?_)
 | (refine tA ?_)
 | fail)
theorem g0r:∀n,(∀{t_:a06} {kE:Int} {y:d9×a06},b6z n t_ kE=some y→l9 Tryz.prog 21 [.ptr 1000 0,.int .i64 kE] [(1000,.cells [.sl (t_.L.map (V.int .i64)),.int .i64 t_.at_])] (fun r H=>r=d9.v y.1∧H=[(1000,.cells [.sl (y.2.L.map (V.int .i64)),.int .i64 y.2.at_])]))
 | 0=>fun hy=>(by simp only [b6z] at hy;cases hy)
 | n+1=>by
  have ih_made_Term:=@g0r n
  exact fun hy=>g55 ih_made_Term _ _ (Q:=(·=_)) ⟨_,hy,rfl⟩ fun|_,rfl=>⟨rfl,rfl⟩
theorem W_0:∀{t_:a06} {kE:Int} {y:d9×a06},F_0 t_ kE=some y→l9 Tryz.prog 21 [.ptr 1000 0,.int .i64 kE] [(1000,.cells [.sl (t_.L.map (V.int .i64)),.int .i64 t_.at_])] (fun r H=>r=d9.v y.1∧H=[(1000,.cells [.sl (y.2.L.map (V.int .i64)),.int .i64 y.2.at_])]):=fun hy=>by
 obtain ⟨n,hn⟩:=a0n hy
 exact (g0r n) hn
instance d4n {t_:a06} {kE:Int}:WI (F_0 t_ kE) Tryz.prog 21 [.ptr 1000 0,.int .i64 kE] [(1000,.cells [.sl (t_.L.map (V.int .i64)),.int .i64 t_.at_])] (fun y=>d9.v y.1) (fun y=>[(1000,.cells [.sl (y.2.L.map (V.int .i64)),.int .i64 y.2.at_])]):=⟨fun Q Q' h hQ=>by obtain ⟨y,hy,hq⟩:=h;exact (W_0 hy).mono fun r H' e=>by rw [e.1,e.2];exact hQ y hq⟩
@[go_sem] def f7l (n_:Int) (x37:Int×(List l7)×a06):Option (Fl (Int×(List l7)×a06) ((List l7)×a06)) :=
 bif decide (x37.1<n_) then (F_5 x37.1).bind fun y47=>chk (a1o ([114].length+y47.length)) ((F_0 x37.2.2 3).bind fun y48=>(F_y y48.2 1 2).bind fun y49=>chk (room (x37.2.1.length+[(l7.mk (([114]:Str)++y47) y48.1 y49.1)].length) 88) (chk (a0c (x37.1+1)) (some (.nx ((x37.1+1),(x37.2.1++[(l7.mk (([114]:Str)++y47) y48.1 y49.1)]),y49.2))))) else some (.ex (x37.2.1,x37.2.2))
def e9w (t_:a06) (n_:Int):Option ((List l7)×a06) :=
 (loop (f7l n_) (0,[],t_)).bind fun r50=>some (r50.1,r50.2)
def f9u:List (Nat×RN):=[(1,⟨[],[.k 0 1],[]⟩),(4,⟨[.gc [0,1,5,6]],[],[]⟩),(5,⟨[],[.c 5 0 [1000] [],.c 7 0 [1000] []],[]⟩)]
@[irreducible] def e5q:MC:=rdc (cK Tryz.prog Tryz.f10 f9u [] 3)
instance:LI e5q 0 0 [0,1] [] (fun y:Int×(List l7)×a06=>[(5,.osl 2005 7 0 y.2.1.length),(6,.int .i64 y.1)]) (fun y=>[.o 2005 (.arr 7 (y.2.1.map l7.v)),.o 1000 (.cells [.sl (y.2.2.L.map (V.int .i64)),.int .i64 y.2.2.at_])]) [.gc [0,1,5,6],.acc 5 2005 7]:=⟨⟩
instance g4f {t_:a06} {n_:Int}:WI (e9w t_ n_) Tryz.prog 10 [.ptr 1000 0,.int .i64 n_] [(1000,.cells [.sl (t_.L.map (V.int .i64)),.int .i64 t_.at_])] (fun z=>.sl (z.1.map l7.v)) (fun z=>[(1000,.cells [.sl (z.2.L.map (V.int .i64)),.int .i64 z.2.at_])]):=wX Tryz.func10 f9u [(3,e5q)] [.fz 4] [1000] (h:=fun _ _ h hQ M=>by unfold e9w at h;exact tX)
def g1g (x30:Int×l7):Option (Fl (Int×l7) l7) :=
 bif decide (0<x30.1) then chk (a0c (x30.1 - 1)) (some (.nx ((x30.1 - 1),(l7.mk x30.2.Name (d9.mk 9 [] 0 0 [x30.2.When]) x30.2.Verdict)))) else some (.ex x30.2)
def g1h (t_:a06) (l_:List l7):Option ((List l7)×a06) :=
 chk (room (([]:List l7).length+l_.length) 88) ((F_0 t_ 2).bind fun y2=>chk (room ((([]:List l7)++l_).length+[(l7.mk [108,97,115,116] y2.1 2)].length) 88) ((F_3 y2.2 (((([]:List l7)++l_)++[(l7.mk [108,97,115,116] y2.1 2)]).length:Int)).bind fun y4=>chk (inb y4.1 ((([]:List l7)++l_)++[(l7.mk [108,97,115,116] y2.1 2)]).length) (jn (α:=l7×a06) ((F_3 y4.2 6).bind fun y20=>bif decide (y20.1=0) then (F_3 y20.2 4).bind fun y21=>chk (inb y21.1 [[],[65],[114,48],[97,58,98]].length) (some ((l7.mk ([[],[65],[114,48],[97,58,98]].getD ((y21.1).toNat) default) ((((([]:List l7)++l_)++[(l7.mk [108,97,115,116] y2.1 2)]).getD ((y4.1).toNat) default).When) ((((([]:List l7)++l_)++[(l7.mk [108,97,115,116] y2.1 2)]).getD ((y4.1).toNat) default).Verdict)),y21.2)) else bif decide (y20.1=1) then (F_y y20.2 0 3).bind fun y22=>some ((l7.mk ((((([]:List l7)++l_)++[(l7.mk [108,97,115,116] y2.1 2)]).getD ((y4.1).toNat) default).Name) ((((([]:List l7)++l_)++[(l7.mk [108,97,115,116] y2.1 2)]).getD ((y4.1).toNat) default).When) y22.1),y22.2) else bif decide (y20.1=2) then (F_y y20.2 (-1) 3).bind fun y23=>some ((l7.mk ((((([]:List l7)++l_)++[(l7.mk [108,97,115,116] y2.1 2)]).getD ((y4.1).toNat) default).Name) (d9.mk (((((([]:List l7)++l_)++[(l7.mk [108,97,115,116] y2.1 2)]).getD ((y4.1).toNat) default).When).Op) (((((([]:List l7)++l_)++[(l7.mk [108,97,115,116] y2.1 2)]).getD ((y4.1).toNat) default).When).Text) y23.1 (((((([]:List l7)++l_)++[(l7.mk [108,97,115,116] y2.1 2)]).getD ((y4.1).toNat) default).When).Print) (((((([]:List l7)++l_)++[(l7.mk [108,97,115,116] y2.1 2)]).getD ((y4.1).toNat) default).When).Kids)) ((((([]:List l7)++l_)++[(l7.mk [108,97,115,116] y2.1 2)]).getD ((y4.1).toNat) default).Verdict)),y23.2) else bif decide (y20.1=3) then (F_3 y20.2 4).bind fun y24=>chk (inb y24.1 [[],[97,34,98],[120,32,121],[111,107]].length) (some ((l7.mk ((((([]:List l7)++l_)++[(l7.mk [108,97,115,116] y2.1 2)]).getD ((y4.1).toNat) default).Name) (d9.mk (((((([]:List l7)++l_)++[(l7.mk [108,97,115,116] y2.1 2)]).getD ((y4.1).toNat) default).When).Op) ([[],[97,34,98],[120,32,121],[111,107]].getD ((y24.1).toNat) default) (((((([]:List l7)++l_)++[(l7.mk [108,97,115,116] y2.1 2)]).getD ((y4.1).toNat) default).When).Number) (((((([]:List l7)++l_)++[(l7.mk [108,97,115,116] y2.1 2)]).getD ((y4.1).toNat) default).When).Print) (((((([]:List l7)++l_)++[(l7.mk [108,97,115,116] y2.1 2)]).getD ((y4.1).toNat) default).When).Kids)) ((((([]:List l7)++l_)++[(l7.mk [108,97,115,116] y2.1 2)]).getD ((y4.1).toNat) default).Verdict)),y24.2)) else bif decide (y20.1=4) then (F_y y20.2 8 12).bind fun y25=>some ((l7.mk ((((([]:List l7)++l_)++[(l7.mk [108,97,115,116] y2.1 2)]).getD ((y4.1).toNat) default).Name) (d9.mk y25.1 [] 0 0 [(((([]:List l7)++l_)++[(l7.mk [108,97,115,116] y2.1 2)]).getD ((y4.1).toNat) default).When]) ((((([]:List l7)++l_)++[(l7.mk [108,97,115,116] y2.1 2)]).getD ((y4.1).toNat) default).Verdict)),y25.2) else (F_3 y20.2 25).bind fun y27=>(loop g1g (y27.1,((([]:List l7)++l_)++[(l7.mk [108,97,115,116] y2.1 2)]).getD ((y4.1).toNat) default)).bind fun r31=>some (r31,y27.2)) fun j18=>chk (inb y4.1 ((([]:List l7)++l_)++[(l7.mk [108,97,115,116] y2.1 2)]).length) (some (((([]:List l7)++l_)++[(l7.mk [108,97,115,116] y2.1 2)]).set ((y4.1).toNat) j18.1,j18.2)))))
def f6i:List (Nat×RN):=[(1,⟨[],[.c 4 0 [1000] []],[]⟩),(2,⟨[.gc [0,5]],[.c 3 0 [1000] []],[]⟩),(4,⟨[],[.c 1 0 [1000] []],[]⟩),(5,⟨[.gc [0,5,6,7]],[.c 1 0 [1000] []],[]⟩),(10,⟨[.gc [0,5,6,7]],[.c 2 0 [1000] []],[]⟩),(12,⟨[.gc [0,5,6,7]],[.c 1 0 [1000] []],[]⟩),(14,⟨[.gc [0,5,6,7]],[.c 1 0 [1000] []],[]⟩),(16,⟨[.gc [0,5,6,7]],[.c 2 0 [1000] []],[]⟩),(18,⟨[.gc [0,5,6,7]],[.c 1 0 [1000] []],[]⟩)]
@[irreducible] def d1l:MC:=rdc (cK Tryz.prog Tryz.f24 f6i [] 6)
@[irreducible] def d8o:MC:=rdc (cK Tryz.prog Tryz.f24 f6i [(6,d1l)] 10000019)
def e6c:MC:=rdc (cT Tryz.prog Tryz.f24 f6i [(6,d1l),(10000019,d8o)])
instance g4l {t_:a06} {l_:List l7}:WI (g1h t_ l_) Tryz.prog 24 [.ptr 1000 0,.sl (l_.map l7.v)] [(1000,.cells [.sl (t_.L.map (V.int .i64)),.int .i64 t_.at_])] (fun z=>.sl (z.1.map l7.v)) (fun z=>[(1000,.cells [.sl (z.2.L.map (V.int .i64)),.int .i64 z.2.at_])]):=⟨fun Q Q' h hQ=>by
 refine a0s e6c [.fz 4] [1000] [.t 4] Tryz.func24 fun M=>?_
 unfold g1h at h
 unfold e6c
 replace h:=tY h
 refine tB ?_
 repeat' (first
 | (exact tZ)
 | ((first|refine a6y h ?_|refine a1i h ?_|refine d1z h ?_|refine d49 h ?_|refine c9o h ?_|refine appG h ?_|refine d4i h ?_|refine fork h ?_ ?_|refine a1j h ?_ ?_)<;>clear h<;>intro hc h)
 | (obtain ⟨y,hy,h⟩:=h;(first|with_reducible first|have hw:=W_0 hy|have hw:=WI.w hy);replace hw:=tY hw;(first|refine M.sC hw ?_|refine M.sD hw ?_);clear hw hy;refine tB ?_)
 | (refine M.wh1 (b:=d1l) [5,6,7] [16,1000] (fun x=>[(8,.int .i64 x.1)]) (fun x=>[.o 7 (.cells [.str x.2.Name,.int .i64 x.2.When.Op,.str x.2.When.Text,.int .i64 x.2.When.Number,.int .u64 x.2.When.Print,.sl (x.2.When.Kids.map d9.v),.int .i64 x.2.Verdict])]) [.fzc 7] h ?_ ?_<;>first
 | (clear h;intro x Qn K hK1 h;unfold g1g at h;unfold d1l;replace h:=tY h;refine tB ?_)
  |(clear h;(try refine tB ?_);exact tU0;done))
 | (refine M.jn1 (b:=d8o) [5,6,7] [16] (fun y=>[]) (fun y=>[.o 7 (.cells [.str y.1.Name,.int .i64 y.1.When.Op,.str y.1.When.Text,.int .i64 y.1.When.Number,.int .u64 y.1.When.Print,.sl (y.1.When.Kids.map d9.v),.int .i64 y.1.Verdict]),.o 1000 (.cells [.sl (y.2.L.map (V.int .i64)),.int .i64 y.2.at_])]) [.fzc 7] h ?_ ?_<;>first
 | (clear h;intro Qn K hK2 h;replace h:=tY h;refine tB ?_)
  |(clear h;intro y h;unfold d8o;replace h:=tY h;refine tB ?_))
 | (exact absurd (hc.symm.trans (by assumption:_=true)) xE)
 | (exact absurd (hc.symm.trans (by assumption:_=false)) xE.symm)
 | ((first|refine hK1 _ ?_|refine hK2 _ ?_);(try refine tB ?_);refine ⟨_,h,?_⟩;exact tU0;done)
 | (refine tE4 l7.v ?_ (by simp only [show ∀(a0:Str) (a1:d9) (a2:Int),V.agg [.str a0,.int .i64 a1.Op,.str a1.Text,.int .i64 a1.Number,.int .u64 a1.Print,.sl (a1.Kids.map d9.v),.int .i64 a2]=l7.v ⟨a0,a1,a2⟩ from fun _ _ _=>rfl];repeat (first|exact IsMap.nil|apply IsMap.cons|apply IsMap.app)) (by simp only [xB,xU,wD,wU];exact a1y (by assumption));(first|rw [M.lok_compU]|rw [M.lokD_compU]|(simp only [V.cells];first|rw [M.lok_comp]|rw [M.lokD_comp]));refine tB ?_)
 | (refine tE4 l7.v ?_ (by simp only [show ∀(a0:Str) (a1:Int) (a2:Str) (a3:Int) (a4:Int) (a5:List d9) (a6:Int),V.agg [.str a0,.int .i64 a1,.str a2,.int .i64 a3,.int .u64 a4,.sl (a5.map d9.v),.int .i64 a6]=l7.v ⟨a0,⟨a1,a2,a3,a4,a5⟩,a6⟩ from fun _ _ _ _ _ _ _=>rfl];repeat (first|exact IsMap.nil|apply IsMap.cons|apply IsMap.app)) (by simp only [xB,xU,wD,wU];exact a1y (by assumption));(first|rw [M.lok_compU]|rw [M.lokD_compU]|(simp only [V.cells];first|rw [M.lok_comp]|rw [M.lokD_comp]));refine tB ?_)
 | (refine tE4 V.str ?_;(first|rw [M.lok_compU]|rw [M.lokD_compU]|(simp only [V.cells];first|rw [M.lok_comp]|rw [M.lokD_comp]));refine tB ?_)
 | (refine tE ?_;(first|rw [M.lok_compU]|rw [M.lokD_compU]);refine tB ?_)
 | (refine ⟨_,f9n (by first|exact a1y (by assumption)|exact a9e (by assumption)|assumption) rfl,?_⟩;(first|rw [M.lok_compU]|rw [M.lokD_compU]);refine tB ?_)
 | (refine ⟨_,f9m (by first|exact a1y (by assumption)|exact a9e (by assumption)|assumption),?_⟩;(first|rw [M.lok_compU]|rw [M.lokD_compU]|(simp only [V.cells,z5,wL];first|rw [M.lok_comp]|rw [M.lokD_comp]));refine tB ?_)
 | (refine ⟨_,b56 (by first|exact a1y (by assumption)|exact a9e (by assumption)),?_⟩;(first|rw [M.lok_compU]|rw [M.lokD_compU]|(simp only [V.cells];first|rw [M.lok_comp]|rw [M.lokD_comp]));refine tB ?_)
 | (refine tA ?_)
 | fail)⟩
def e1k:Nat→d9→Option Int
 | 0,_=>none
 | n+1,c_ =>
 (loop (fun (x37:Int×Int)=>(grp ((decide (x37.2<(c_.Kids.length:Int))&&decide (x37.1<1000))) fun b47=>bif b47 then chk (inb x37.2 c_.Kids.length) ((e1k n (c_.Kids.getD (x37.2).toNat default)).bind fun y49=>chk (a0c (x37.1+y49)) (chk (a0c (x37.2+1)) (some (.nx ((min 1000 (x37.1+y49)),(x37.2+1)))))) else some (.ex x37.1):Option (Fl (Int×Int) Int))) (1,0)).bind fun r50=>some r50
def F_p (c_:d9):Option Int:=lim fun n=>e1k n c_
@[irreducible] def d7o:List MOp:=rdc (cG Tryz.prog Tryz.f45 [] 3 6 8)
def a_p:List (Nat×RN):=[(3,⟨[],[],[.u 6 8 d7o]⟩),(4,⟨[.gc [1,3,4,11,12]],[],[]⟩)]
@[irreducible] def d8n:MC:=rdc (cK Tryz.prog Tryz.f45 a_p [] 3)
def f8k:MC:=rdc (cT Tryz.prog Tryz.f45 a_p [(3,d8n)])
theorem g2q {n:Nat} (ih_law21_size:∀{c_:d9} {y:Int},e1k n c_=some y→l9 Tryz.prog 45 [d9.v c_] [] (fun r H=>r=.int .i64 y∧H=[])) (c_:d9) {Q:Int→Prop} {Q':V→Heap→Prop} (h:Ok (e1k (n+1) c_) Q) (hQ:∀z,Q z→Q' (.int .i64 z) []):l9 Tryz.prog 45 [d9.v c_] [] Q':=by
 refine a0s f8k [] [] [.t 2] Tryz.func45 fun M=>?_
 simp only [e1k] at h
 unfold f8k
 replace h:=tY h
 refine tB ?_
 repeat' (first
 | (exact tZ)
 | ((first|refine a6y h ?_|refine a1i h ?_|refine fork h ?_ ?_|refine a1j h ?_ ?_)<;>clear h<;>intro hc h)
 | (obtain ⟨y,hy,h⟩:=h;have hw:=ih_law21_size hy;replace hw:=tY hw;(first|refine M.sC hw ?_|refine M.sD hw ?_);clear hw hy;refine tB ?_)
 | (refine M.gv1 (ms:=d7o) 13 [11,12] h ?_ ?_<;>first
 | (clear h;intro K hK1;unfold d7o;refine tB ?_)
 | (clear h;intro b h;replace h:=tY h;refine tB ?_))
 | (refine M.wh1 (b:=d8n) [1] [1] (fun x=>[(3,.int .i64 x.1),(4,.int .i64 x.2)]) (fun x=>[]) [] h ?_ ?_<;>first
 | (clear h;intro x Qn K hK2 h;unfold d8n;replace h:=tY h;refine tB ?_)
  |(clear h;(try refine tB ?_);exact tU0;done))
 | (refine hK1 _ ?_;exact tU;done)
 | (refine hK2 _ ?_;(try refine tB ?_);refine ⟨_,h,?_⟩;exact tU0;done)
 | (refine a9i (fun hc=>?_) (fun hc=>?_))
 | (refine tE ?_;(first|rw [M.lok_compU]|rw [M.lokD_compU]);refine tB ?_)
 | (refine tA ?_)
 | fail)
theorem g0d:∀n,(∀{c_:d9} {y:Int},e1k n c_=some y→l9 Tryz.prog 45 [d9.v c_] [] (fun r H=>r=.int .i64 y∧H=[]))
 | 0=>fun hy=>(by simp only [e1k] at hy;cases hy)
 | n+1=>by
  have ih_law21_size:=@g0d n
  exact fun hy=>g2q ih_law21_size _ (Q:=(·=_)) ⟨_,hy,rfl⟩ fun|_,rfl=>⟨rfl,rfl⟩
theorem W_p:∀{c_:d9} {y:Int},F_p c_=some y→l9 Tryz.prog 45 [d9.v c_] [] (fun r H=>r=.int .i64 y∧H=[]):=fun hy=>by
 obtain ⟨n,hn⟩:=a0n hy
 exact (g0d n) hn
instance d3k {c_:d9}:WI (F_p c_) Tryz.prog 45 [d9.v c_] [] (fun y=>.int .i64 y) (fun y=>[]):=⟨fun Q Q' h hQ=>by obtain ⟨y,hy,hq⟩:=h;exact (W_p hy).mono fun r H' e=>by rw [e.1,e.2];exact hQ y hq⟩
@[go_sem] def g1a (l_:List l7) (x29:Int):Option (Fl Int (Sum Unit Bool)) :=
 bif decide (x29<(l_.length:Int)) then chk (inb x29 l_.length) ((F_p ((l_.getD (x29).toNat default).When)).bind fun y37=>bif decide (200<y37) then some (.ex (.inr false)) else chk (a0c (x29+1)) (some (.nx (x29+1)))) else some (.ex (.inl ()))
def g1d (l_:List l7):Option Bool :=
 bif decide (50<(l_.length:Int)) then some false else (loop (g1a l_) 0).bind fun r38=>Sum.elim (fun u39=>some true) (fun u40=>some u40) r38
def f9p:List (Nat×RN):=[(5,⟨[.gc [0,3]],[],[]⟩)]
@[irreducible] def e5k:MC:=rdc (cK Tryz.prog Tryz.f25 f9p [] 4)
instance:LI e5k 0 0 [0] [] (fun y:Int=>[(3,.int .i64 y)]) (fun y=>[]) []:=⟨⟩
instance g3p {l_:List l7}:WJ (g1d l_) 25 [.sl (l_.map l7.v)] .bool:=wX Tryz.func25 f9p [(4,e5k)] (h:=fun _ _ h hQ M=>by unfold g1d at h;exact tX)
def f1l (s_:Str) (x59:Int):Option (Fl Int (Sum Unit Bool)) :=
 bif decide (x59<(s_.length:Int)) then jn (α:=Fl Unit Bool) (chk (inb x59 s_.length) (bif decide (((s_.getD (x59).toNat 0).toNat:Int)<97) then jn (α:=Str×Int×UInt8×Bool×Bool×Bool×Bool) (chk (inb x59 s_.length) (bif decide (((s_.getD (x59).toNat 0).toNat:Int)<48) then some (s_,x59,(s_.getD (x59).toNat 0),decide (((s_.getD (x59).toNat 0).toNat:Int)<48),true,true,true) else chk (inb x59 s_.length) (some (s_,x59,(s_.getD (x59).toNat 0),decide (((s_.getD (x59).toNat 0).toNat:Int)<48),false,decide (57<((s_.getD (x59).toNat 0).toNat:Int)),decide (57<((s_.getD (x59).toNat 0).toNat:Int)))))) fun j83=>jn (α:=Bool) (bif j83.2.2.2.2.2.2 then chk (inb x59 s_.length) (some (!decide (((s_.getD (x59).toNat 0).toNat:Int)=45))) else some false) fun j84=>bif j84 then some (.ex false) else some (.nx ()) else chk (inb x59 s_.length) (jn (α:=Bool) (bif decide (122<((s_.getD (x59).toNat 0).toNat:Int)) then chk (inb x59 s_.length) (bif decide (((s_.getD (x59).toNat 0).toNat:Int)<48) then some true else chk (inb x59 s_.length) (some (decide (57<((s_.getD (x59).toNat 0).toNat:Int))))) else some false) fun j85=>jn (α:=Bool) (bif j85 then chk (inb x59 s_.length) (some (!decide (((s_.getD (x59).toNat 0).toNat:Int)=45))) else some false) fun j86=>bif j86 then some (.ex false) else some (.nx ())))) fun o=>o.elim (fun j78=>chk (a0c (x59+1)) (some (.nx (x59+1)))) (fun r87=>some (.ex (.inr r87))) else some (.ex (.inl ()))
def e1f (s_:Str):Option Bool :=
 (loop (f1l s_) 0).bind fun r88=>Sum.elim (fun u89=>grp ((decide (1≤(s_.length:Int))&&decide ((s_.length:Int)≤40))) fun b92=>some b92) (fun u90=>some u90) r88
@[irreducible] def c6m:List MOp:=rdc (cG Tryz.prog Tryz.f49 [] 4 11 21)
@[irreducible] def c6l:List MOp:=rdc (cG Tryz.prog Tryz.f49 [] 4 23 27)
@[irreducible] def d7n:List MOp:=rdc (cG Tryz.prog Tryz.f49 [] 6 4 7)
def f6o:List (Nat×RN):=[(4,⟨[],[],[.u 11 21 c6m,.u 23 27 c6l]⟩),(6,⟨[],[],[.u 4 7 d7n]⟩)]
@[irreducible] def d19:MC:=rdc (cK Tryz.prog Tryz.f49 f6o [] 10000003)
@[irreducible] def d94:MC:=rdc (cK Tryz.prog Tryz.f49 f6o [(10000003,d19)] 2)
def e6h:MC:=rdc (cT Tryz.prog Tryz.f49 f6o [(10000003,d19),(2,d94)])
instance g53 {s_:Str}:WI (e1f s_) Tryz.prog 49 [.str s_] [] (fun z=>.bool z) (fun z=>[]):=⟨fun Q Q' h hQ=>by
 refine a0s e6h [] [] [.t 2] Tryz.func49 fun M=>?_
 unfold e1f at h
 unfold e6h
 replace h:=tY h
 refine tB ?_
 repeat' (first
 | (exact tZ)
 | ((first|refine a6y h ?_|refine a1i h ?_|refine d1z h ?_|refine d49 h ?_|refine c9o h ?_|refine appG h ?_|refine d4i h ?_|refine fork h ?_ ?_|refine a1j h ?_ ?_)<;>clear h<;>intro hc h)
 | (refine M.gj1 (ms:=c6l) [0,3,21,22,23,24,25,30] [] (fun y=>[(37,.bool y)]) (fun y=>[]) h ?_ ?_<;>first
 | (clear h;intro Qn K hK1 h;unfold c6l;replace h:=tY h;refine tB ?_)
  |(clear h;intro y h;replace h:=tY h;refine tB ?_))
 | (refine M.gj1 (ms:=c6m) [0,3] [] (fun y=>[(21,.str y.1),(22,.int .i64 y.2.1),(23,a0a y.2.2.1),(24,.bool y.2.2.2.1),(25,.bool y.2.2.2.2.1),(30,.bool y.2.2.2.2.2.1),(31,.bool y.2.2.2.2.2.2)]) (fun y=>[]) h ?_ ?_<;>first
 | (clear h;intro Qn K hK2 h;unfold c6m;replace h:=tY h;refine tB ?_)
  |(clear h;intro y h;replace h:=tY h;refine tB ?_))
 | (refine M.gj1 (ms:=c6l) [0,3,15,16,17,18] [] (fun y=>[(37,.bool y)]) (fun y=>[]) h ?_ ?_<;>first
 | (clear h;intro Qn K hK3 h;unfold c6l;replace h:=tY h;refine tB ?_)
  |(clear h;intro y h;replace h:=tY h;refine tB ?_))
 | (refine M.gj1 (ms:=c6m) [0,3,15,16,17,18] [] (fun y=>[(31,.bool y)]) (fun y=>[]) h ?_ ?_<;>first
 | (clear h;intro Qn K hK4 h;unfold c6m;replace h:=tY h;refine tB ?_)
  |(clear h;intro y h;replace h:=tY h;refine tB ?_))
 | (refine M.jnE (b:=d19) [0,3] [] (fun y=>[]) (fun y=>[]) [] h ?_ ?_<;>first
 | (clear h;intro Qn K hK5 h;replace h:=tY h;refine tB ?_)
  |(clear h;intro y h;unfold d19;replace h:=tY h;refine tB ?_))
 | (refine M.wh1 (b:=d94) [0] [] (fun x=>[(3,.int .i64 x)]) (fun x=>[]) [] h ?_ ?_<;>first
 | (clear h;intro x Qn K hK6 h;unfold f1l at h;unfold d94;replace h:=tY h;refine tB ?_)
  |(clear h;(try refine tB ?_);exact tU0;done))
 | (refine M.gv1 (ms:=d7n) 45 [42,43,44] h ?_ ?_<;>first
 | (clear h;intro K hK7;unfold d7n;refine tB ?_)
 | (clear h;intro b h;replace h:=tY h;refine tB ?_))
 | ((first|refine hK1 _ ?_|refine hK2 _ ?_|refine hK3 _ ?_|refine hK4 _ ?_|refine hK5 _ ?_|refine hK6 _ ?_);(try refine tB ?_);refine ⟨_,h,?_⟩;exact tU0;done)
 | (refine hK7 _ ?_;exact tU;done)
 | (refine a9i (fun hc=>?_) (fun hc=>?_))
 | (refine tE ?_;(first|rw [M.lok_compU]|rw [M.lokD_compU]);refine tB ?_)
 | (refine tA ?_)
 | fail)⟩
def e1j:Nat→d9→Int→Option Int
 | 0,_,_=>none
 | n+1,c_,jE =>
 chk (a0c (jE+1)) ((loop (fun (x37:Int×Int)=>(grp ((decide (x37.2<(c_.Kids.length:Int))&&decide (x37.1≤60))) fun b47=>bif b47 then chk (inb x37.2 c_.Kids.length) ((e1j n (c_.Kids.getD (x37.2).toNat default) x37.1).bind fun y49=>chk (a0c (x37.2+1)) (some (.nx (y49,(x37.2+1))))) else some (.ex x37.1):Option (Fl (Int×Int) Int))) ((jE+1),0)).bind fun r50=>some r50)
def F_q (c_:d9) (jE:Int):Option Int:=lim fun n=>e1j n c_ jE
@[irreducible] def d7m:List MOp:=rdc (cG Tryz.prog Tryz.f84 [] 3 6 8)
def a_q:List (Nat×RN):=[(3,⟨[],[],[.u 6 8 d7m]⟩),(4,⟨[.gc [1,2,5,14,15]],[],[]⟩)]
@[irreducible] def d8m:MC:=rdc (cK Tryz.prog Tryz.f84 a_q [] 3)
def f8j:MC:=rdc (cT Tryz.prog Tryz.f84 a_q [(3,d8m)])
theorem g2p {n:Nat} (ih_ref21_count:∀{c_:d9} {jE:Int} {y:Int},e1j n c_ jE=some y→l9 Tryz.prog 84 [d9.v c_,.int .i64 jE] [] (fun r H=>r=.int .i64 y∧H=[])) (c_:d9) (jE:Int) {Q:Int→Prop} {Q':V→Heap→Prop} (h:Ok (e1j (n+1) c_ jE) Q) (hQ:∀z,Q z→Q' (.int .i64 z) []):l9 Tryz.prog 84 [d9.v c_,.int .i64 jE] [] Q':=by
 refine a0s f8j [] [] [.t 4] Tryz.func84 fun M=>?_
 simp only [e1j] at h
 unfold f8j
 replace h:=tY h
 refine tB ?_
 repeat' (first
 | (exact tZ)
 | ((first|refine a6y h ?_|refine a1i h ?_|refine fork h ?_ ?_|refine a1j h ?_ ?_)<;>clear h<;>intro hc h)
 | (obtain ⟨y,hy,h⟩:=h;have hw:=ih_ref21_count hy;replace hw:=tY hw;(first|refine M.sC hw ?_|refine M.sD hw ?_);clear hw hy;refine tB ?_)
 | (refine M.gv1 (ms:=d7m) 16 [14,15] h ?_ ?_<;>first
 | (clear h;intro K hK1;unfold d7m;refine tB ?_)
 | (clear h;intro b h;replace h:=tY h;refine tB ?_))
 | (refine M.wh1 (b:=d8m) [2] [2] (fun x=>[(1,.int .i64 x.1),(5,.int .i64 x.2)]) (fun x=>[]) [] h ?_ ?_<;>first
 | (clear h;intro x Qn K hK2 h;unfold d8m;replace h:=tY h;refine tB ?_)
  |(clear h;(try refine tB ?_);exact tU0;done))
 | (refine hK1 _ ?_;exact tU;done)
 | (refine hK2 _ ?_;(try refine tB ?_);refine ⟨_,h,?_⟩;exact tU0;done)
 | (refine a9i (fun hc=>?_) (fun hc=>?_))
 | (refine tE ?_;(first|rw [M.lok_compU]|rw [M.lokD_compU]);refine tB ?_)
 | (refine tA ?_)
 | fail)
theorem g0c:∀n,(∀{c_:d9} {jE:Int} {y:Int},e1j n c_ jE=some y→l9 Tryz.prog 84 [d9.v c_,.int .i64 jE] [] (fun r H=>r=.int .i64 y∧H=[]))
 | 0=>fun hy=>(by simp only [e1j] at hy;cases hy)
 | n+1=>by
  have ih_ref21_count:=@g0c n
  exact fun hy=>g2p ih_ref21_count _ _ (Q:=(·=_)) ⟨_,hy,rfl⟩ fun|_,rfl=>⟨rfl,rfl⟩
theorem W_q:∀{c_:d9} {jE:Int} {y:Int},F_q c_ jE=some y→l9 Tryz.prog 84 [d9.v c_,.int .i64 jE] [] (fun r H=>r=.int .i64 y∧H=[]):=fun hy=>by
 obtain ⟨n,hn⟩:=a0n hy
 exact (g0c n) hn
instance c9t {c_:d9} {jE:Int}:WI (F_q c_ jE) Tryz.prog 84 [d9.v c_,.int .i64 jE] [] (fun y=>.int .i64 y) (fun y=>[]):=⟨fun Q Q' h hQ=>by obtain ⟨y,hy,hq⟩:=h;exact (W_q hy).mono fun r H' e=>by rw [e.1,e.2];exact hQ y hq⟩
def e1i:Nat→d9→Option Int
 | 0,_=>none
 | n+1,c_ =>
 (loop (fun (x17:Int×Int)=>(bif decide (x17.2<(c_.Kids.length:Int)) then chk (inb x17.2 c_.Kids.length) ((e1i n (c_.Kids.getD (x17.2).toNat default)).bind fun y21=>chk (a0c (x17.2+1)) (some (.nx ((max x17.1 y21),(x17.2+1))))) else some (.ex x17.1):Option (Fl (Int×Int) Int))) (0,0)).bind fun r22=>chk (a0c (r22+1)) (some (r22+1))
def F_r (c_:d9):Option Int:=lim fun n=>e1i n c_
def a_r:List (Nat×RN):=[(4,⟨[.gc [1,3,4]],[],[]⟩)]
@[irreducible] def d8l:MC:=rdc (cK Tryz.prog Tryz.f85 a_r [] 3)
def f8i:MC:=rdc (cT Tryz.prog Tryz.f85 a_r [(3,d8l)])
theorem g2o {n:Nat} (ih_ref21_depth:∀{c_:d9} {y:Int},e1i n c_=some y→l9 Tryz.prog 85 [d9.v c_] [] (fun r H=>r=.int .i64 y∧H=[])) (c_:d9) {Q:Int→Prop} {Q':V→Heap→Prop} (h:Ok (e1i (n+1) c_) Q) (hQ:∀z,Q z→Q' (.int .i64 z) []):l9 Tryz.prog 85 [d9.v c_] [] Q':=by
 refine a0s f8i [] [] [.t 2] Tryz.func85 fun M=>?_
 simp only [e1i] at h
 unfold f8i
 replace h:=tY h
 refine tB ?_
 repeat' (first
 | (exact tZ)
 | ((first|refine a6y h ?_|refine a1i h ?_|refine fork h ?_ ?_|refine a1j h ?_ ?_)<;>clear h<;>intro hc h)
 | (obtain ⟨y,hy,h⟩:=h;have hw:=ih_ref21_depth hy;replace hw:=tY hw;(first|refine M.sC hw ?_|refine M.sD hw ?_);clear hw hy;refine tB ?_)
 | (refine M.wh1 (b:=d8l) [1] [1] (fun x=>[(3,.int .i64 x.1),(4,.int .i64 x.2)]) (fun x=>[]) [] h ?_ ?_<;>first
 | (clear h;intro x Qn K hK1 h;unfold d8l;replace h:=tY h;refine tB ?_)
  |(clear h;(try refine tB ?_);exact tU0;done))
 | (refine hK1 _ ?_;(try refine tB ?_);refine ⟨_,h,?_⟩;exact tU0;done)
 | (refine tE ?_;(first|rw [M.lok_compU]|rw [M.lokD_compU]);refine tB ?_)
 | (refine tA ?_)
 | fail)
theorem g0b:∀n,(∀{c_:d9} {y:Int},e1i n c_=some y→l9 Tryz.prog 85 [d9.v c_] [] (fun r H=>r=.int .i64 y∧H=[]))
 | 0=>fun hy=>(by simp only [e1i] at hy;cases hy)
 | n+1=>by
  have ih_ref21_depth:=@g0b n
  exact fun hy=>g2o ih_ref21_depth _ (Q:=(·=_)) ⟨_,hy,rfl⟩ fun|_,rfl=>⟨rfl,rfl⟩
theorem W_r:∀{c_:d9} {y:Int},F_r c_=some y→l9 Tryz.prog 85 [d9.v c_] [] (fun r H=>r=.int .i64 y∧H=[]):=fun hy=>by
 obtain ⟨n,hn⟩:=a0n hy
 exact (g0b n) hn
instance c9s {c_:d9}:WI (F_r c_) Tryz.prog 85 [d9.v c_] [] (fun y=>.int .i64 y) (fun y=>[]):=⟨fun Q Q' h hQ=>by obtain ⟨y,hy,hq⟩:=h;exact (W_r hy).mono fun r H' e=>by rw [e.1,e.2];exact hQ y hq⟩
@[go_sem] def g0z (s_:Str) (x9:Int):Option (Fl Int (Sum Unit Bool)) :=
 bif decide (x9<(s_.length:Int)) then chk (inb x9 s_.length) (bif decide (((s_.getD (x9).toNat 0).toNat:Int)<33) then some (.ex (.inr false)) else chk (inb x9 s_.length) (bif decide (126<((s_.getD (x9).toNat 0).toNat:Int)) then some (.ex (.inr false)) else chk (inb x9 s_.length) (bif decide (((s_.getD (x9).toNat 0).toNat:Int)=34) then some (.ex (.inr false)) else chk (a0c (x9+1)) (some (.nx (x9+1)))))) else some (.ex (.inl ()))
def f7w (s_:Str):Option Bool :=
 (loop (g0z s_) 0).bind fun r10=>Sum.elim (fun u11=>grp ((decide (1≤(s_.length:Int))&&decide ((s_.length:Int)≤40))) fun b14=>some b14) (fun u12=>some u12) r10
def f9s:List (Nat×RN):=[(3,⟨[.gc [0,3,15,16,17,18,21,22,23,24,30,31,32]],[],[]⟩),(6,⟨[],[],[.v 4 7]⟩)]
@[irreducible] def e5j:MC:=rdc (cK Tryz.prog Tryz.f116 f9s [] 2)
instance:LI e5j 0 0 [0] [] (fun y:Int=>[(3,.int .i64 y)]) (fun y=>[]) []:=⟨⟩
instance f6r {s_:Str}:WJ (f7w s_) 116 [.str s_] .bool:=wX Tryz.func116 f9s [(2,e5j)] (h:=fun _ _ h hQ M=>by unfold f7w at h;exact tX)
def e1l:Nat→d9→Option Bool
 | 0,_=>none
 | n+1,c_ =>
 jn (α:=Bool) (jn (α:=Bool) (bif decide (c_.Op=1) then some true else bif decide (c_.Op=2) then some true else some (decide (c_.Op=3))) fun j21=>bif j21 then (f7w c_.Text).bind fun y22=>grp ((y22&&decide (c_.Number=0))) fun b23=>grp ((b23&&decide (c_.Print=0))) fun b24=>grp ((b24&&decide ((c_.Kids.length:Int)=0))) fun b25=>some b25 else jn (α:=Bool) (bif decide (c_.Op=4) then some true else bif decide (c_.Op=5) then some true else bif decide (c_.Op=6) then some true else some (decide (c_.Op=8))) fun j26=>bif j26 then grp ((decide (c_.Text=[])&&decide (0≤c_.Number))) fun b27=>grp ((b27&&decide (c_.Number≤1099511627776))) fun b28=>grp ((b28&&decide (c_.Print=0))) fun b29=>grp ((b29&&decide ((c_.Kids.length:Int)=0))) fun b30=>some b30 else bif decide (c_.Op=7) then grp ((decide (c_.Text=[])&&decide (c_.Number=0))) fun b31=>grp ((b31&&decide ((c_.Kids.length:Int)=0))) fun b32=>some b32 else bif decide (c_.Op=9) then grp ((decide (c_.Text=[])&&decide (c_.Number=0))) fun b33=>grp ((b33&&decide (c_.Print=0))) fun b34=>grp ((b34&&decide ((c_.Kids.length:Int)=1))) fun b35=>some b35 else jn (α:=Bool) (bif decide (c_.Op=10) then some true else some (decide (c_.Op=11))) fun j36=>bif j36 then grp ((decide (c_.Text=[])&&decide (c_.Number=0))) fun b37=>grp ((b37&&decide (c_.Print=0))) fun b38=>grp ((b38&&decide (2≤(c_.Kids.length:Int)))) fun b39=>some b39 else some false) fun j20=>(loop (fun (x76:Bool×Int)=>(grp ((decide (x76.2<(c_.Kids.length:Int))&&x76.1)) fun b86=>bif b86 then chk (inb x76.2 c_.Kids.length) ((e1l n (c_.Kids.getD (x76.2).toNat default)).bind fun y88=>chk (a0c (x76.2+1)) (some (.nx (y88,(x76.2+1))))) else some (.ex x76.1):Option (Fl (Bool×Int) Bool))) (j20,0)).bind fun r89=>some r89
def F_d (c_:d9):Option Bool:=lim fun n=>e1l n c_
@[irreducible] def d7l:List MOp:=rdc (cG Tryz.prog Tryz.f86 [] 6 4 7)
@[irreducible] def d7k:List MOp:=rdc (cG Tryz.prog Tryz.f86 [] 6 9 12)
@[irreducible] def d7j:List MOp:=rdc (cG Tryz.prog Tryz.f86 [] 6 14 18)
@[irreducible] def d7i:List MOp:=rdc (cG Tryz.prog Tryz.f86 [] 11 4 7)
@[irreducible] def d7h:List MOp:=rdc (cG Tryz.prog Tryz.f86 [] 11 9 12)
@[irreducible] def d7g:List MOp:=rdc (cG Tryz.prog Tryz.f86 [] 11 14 17)
@[irreducible] def d7f:List MOp:=rdc (cG Tryz.prog Tryz.f86 [] 11 19 23)
@[irreducible] def d7e:List MOp:=rdc (cG Tryz.prog Tryz.f86 [] 13 4 7)
@[irreducible] def d7d:List MOp:=rdc (cG Tryz.prog Tryz.f86 [] 13 9 13)
@[irreducible] def d7c:List MOp:=rdc (cG Tryz.prog Tryz.f86 [] 15 4 7)
@[irreducible] def d7b:List MOp:=rdc (cG Tryz.prog Tryz.f86 [] 15 9 12)
@[irreducible] def d7a:List MOp:=rdc (cG Tryz.prog Tryz.f86 [] 15 14 18)
@[irreducible] def d79:List MOp:=rdc (cG Tryz.prog Tryz.f86 [] 18 4 7)
@[irreducible] def d78:List MOp:=rdc (cG Tryz.prog Tryz.f86 [] 18 9 12)
@[irreducible] def d77:List MOp:=rdc (cG Tryz.prog Tryz.f86 [] 18 14 18)
@[irreducible] def d76:List MOp:=rdc (cG Tryz.prog Tryz.f86 [] 20 6 7)
def a_d:List (Nat×RN):=[(6,⟨[],[],[.u 4 7 d7l,.u 9 12 d7k,.u 14 18 d7j]⟩),(11,⟨[],[],[.u 4 7 d7i,.u 9 12 d7h,.u 14 17 d7g,.u 19 23 d7f]⟩),(13,⟨[],[],[.u 4 7 d7e,.u 9 13 d7d]⟩),(15,⟨[],[],[.u 4 7 d7c,.u 9 12 d7b,.u 14 18 d7a]⟩),(18,⟨[],[],[.u 4 7 d79,.u 9 12 d78,.u 14 18 d77]⟩),(20,⟨[],[],[.u 6 7 d76]⟩),(22,⟨[.gc [1,4,124]],[],[]⟩)]
@[irreducible] def c0l:MC:=rdc (cK Tryz.prog Tryz.f86 a_d [] 10000018)
@[irreducible] def c4g:MC:=rdc (cK Tryz.prog Tryz.f86 a_d [(10000018,c0l)] 10000011)
@[irreducible] def c6w:MC:=rdc (cK Tryz.prog Tryz.f86 a_d [(10000018,c0l),(10000011,c4g)] 10000006)
@[irreducible] def d18:MC:=rdc (cK Tryz.prog Tryz.f86 a_d [(10000018,c0l),(10000011,c4g),(10000006,c6w)] 20)
@[irreducible] def d8k:MC:=rdc (cK Tryz.prog Tryz.f86 a_d [(10000018,c0l),(10000011,c4g),(10000006,c6w),(20,d18)] 10000019)
def f8w:MC:=rdc (cT Tryz.prog Tryz.f86 a_d [(10000018,c0l),(10000011,c4g),(10000006,c6w),(20,d18),(10000019,d8k)])
theorem g32 {n:Nat} (ih_ref21_right:∀{c_:d9} {y:Bool},e1l n c_=some y→l9 Tryz.prog 86 [d9.v c_] [] (fun r H=>r=.bool y∧H=[])) (c_:d9) {Q:Bool→Prop} {Q':V→Heap→Prop} (h:Ok (e1l (n+1) c_) Q) (hQ:∀z,Q z→Q' (.bool z) []):l9 Tryz.prog 86 [d9.v c_] [] Q':=by
 refine a0s f8w [] [] [.t 2] Tryz.func86 fun M=>?_
 simp only [e1l] at h
 unfold f8w
 replace h:=tY h
 refine tB ?_
 repeat' (first
 | (exact tZ)
 | ((first|refine a6y h ?_|refine a1i h ?_|refine fork h ?_ ?_|refine a1j h ?_ ?_)<;>clear h<;>intro hc h)
 | (obtain ⟨y,hy,h⟩:=h;(first|with_reducible first|have hw:=f6r.c.w hy|have hw:=ih_ref21_right hy);replace hw:=tY hw;(first|refine M.sC hw ?_|refine M.sD hw ?_);clear hw hy;refine tB ?_)
 | (refine M.gv1 (ms:=d7j) 29 [25,26,27,28] h ?_ ?_<;>first
 | (clear h;intro K hK1;unfold d7j;refine tB ?_)
 | (clear h;intro b h;replace h:=tY h;refine tB ?_))
 | (refine M.gv1 (ms:=d7k) 23 [20,21,22] h ?_ ?_<;>first
 | (clear h;intro K hK2;unfold d7k;refine tB ?_)
 | (clear h;intro b h;replace h:=tY h;refine tB ?_))
 | (refine M.gv1 (ms:=d7l) 18 [15,16,17] h ?_ ?_<;>first
 | (clear h;intro K hK3;unfold d7l;refine tB ?_)
 | (clear h;intro b h;replace h:=tY h;refine tB ?_))
 | (refine M.gv1 (ms:=d7f) 58 [54,55,56,57] h ?_ ?_<;>first
 | (clear h;intro K hK4;unfold d7f;refine tB ?_)
 | (clear h;intro b h;replace h:=tY h;refine tB ?_))
 | (refine M.gv1 (ms:=d7g) 52 [49,50,51] h ?_ ?_<;>first
 | (clear h;intro K hK5;unfold d7g;refine tB ?_)
 | (clear h;intro b h;replace h:=tY h;refine tB ?_))
 | (refine M.gv1 (ms:=d7h) 47 [44,45,46] h ?_ ?_<;>first
 | (clear h;intro K hK6;unfold d7h;refine tB ?_)
 | (clear h;intro b h;replace h:=tY h;refine tB ?_))
 | (refine M.gv1 (ms:=d7i) 42 [39,40,41] h ?_ ?_<;>first
 | (clear h;intro K hK7;unfold d7i;refine tB ?_)
 | (clear h;intro b h;replace h:=tY h;refine tB ?_))
 | (refine M.gv1 (ms:=d7d) 74 [70,71,72,73] h ?_ ?_<;>first
 | (clear h;intro K hK8;unfold d7d;refine tB ?_)
 | (clear h;intro b h;replace h:=tY h;refine tB ?_))
 | (refine M.gv1 (ms:=d7e) 68 [65,66,67] h ?_ ?_<;>first
 | (clear h;intro K hK9;unfold d7e;refine tB ?_)
 | (clear h;intro b h;replace h:=tY h;refine tB ?_))
 | (refine M.gv1 (ms:=d7a) 95 [91,92,93,94] h ?_ ?_<;>first
 | (clear h;intro K hK10;unfold d7a;refine tB ?_)
 | (clear h;intro b h;replace h:=tY h;refine tB ?_))
 | (refine M.gv1 (ms:=d7b) 89 [86,87,88] h ?_ ?_<;>first
 | (clear h;intro K hK11;unfold d7b;refine tB ?_)
 | (clear h;intro b h;replace h:=tY h;refine tB ?_))
 | (refine M.gv1 (ms:=d7c) 84 [81,82,83] h ?_ ?_<;>first
 | (clear h;intro K hK12;unfold d7c;refine tB ?_)
 | (clear h;intro b h;replace h:=tY h;refine tB ?_))
 | (refine M.gv1 (ms:=d77) 117 [113,114,115,116] h ?_ ?_<;>first
 | (clear h;intro K hK13;unfold d77;refine tB ?_)
 | (clear h;intro b h;replace h:=tY h;refine tB ?_))
 | (refine M.gv1 (ms:=d78) 111 [108,109,110] h ?_ ?_<;>first
 | (clear h;intro K hK14;unfold d78;refine tB ?_)
 | (clear h;intro b h;replace h:=tY h;refine tB ?_))
 | (refine M.gv1 (ms:=d79) 106 [103,104,105] h ?_ ?_<;>first
 | (clear h;intro K hK15;unfold d79;refine tB ?_)
 | (clear h;intro b h;replace h:=tY h;refine tB ?_))
 | (refine M.jn1 (b:=c0l) [1,3] [1] (fun y=>[(96,.bool y)]) (fun y=>[]) [] h ?_ ?_<;>first
 | (clear h;intro Qn K hK16 h;replace h:=tY h;refine tB ?_)
  |(clear h;intro y h;unfold c0l;replace h:=tY h;refine tB ?_))
 | (refine M.jn1 (b:=c4g) [1,3,6] [1] (fun y=>[(30,.bool y)]) (fun y=>[]) [] h ?_ ?_<;>first
 | (clear h;intro Qn K hK17 h;replace h:=tY h;refine tB ?_)
  |(clear h;intro y h;unfold c4g;replace h:=tY h;refine tB ?_))
 | (refine M.jn1 (b:=c6w) [1,3,6] [1] (fun y=>[(7,.bool y)]) (fun y=>[]) [] h ?_ ?_<;>first
 | (clear h;intro Qn K hK18 h;replace h:=tY h;refine tB ?_)
  |(clear h;intro y h;unfold c6w;replace h:=tY h;refine tB ?_))
 | (refine M.gv1 (ms:=d76) 125 [124] h ?_ ?_<;>first
 | (clear h;intro K hK19;unfold d76;refine tB ?_)
 | (clear h;intro b h;replace h:=tY h;refine tB ?_))
 | (refine M.wh1 (b:=d18) [1] [1] (fun x=>[(3,.bool x.1),(4,.int .i64 x.2)]) (fun x=>[]) [] h ?_ ?_<;>first
 | (clear h;intro x Qn K hK20 h;unfold d18;replace h:=tY h;refine tB ?_)
  |(clear h;(try refine tB ?_);exact tU0;done))
 | (refine M.jn1 (b:=d8k) [1] [1] (fun y=>[(3,.bool y)]) (fun y=>[]) [] h ?_ ?_<;>first
 | (clear h;intro Qn K hK21 h;replace h:=tY h;refine tB ?_)
  |(clear h;intro y h;unfold d8k;replace h:=tY h;refine tB ?_))
 | ((first|refine hK1 _ ?_|refine hK2 _ ?_|refine hK3 _ ?_|refine hK4 _ ?_|refine hK5 _ ?_|refine hK6 _ ?_|refine hK7 _ ?_|refine hK8 _ ?_|refine hK9 _ ?_|refine hK10 _ ?_|refine hK11 _ ?_|refine hK12 _ ?_|refine hK13 _ ?_|refine hK14 _ ?_|refine hK15 _ ?_|refine hK19 _ ?_);exact tU;done)
 | ((first|refine hK16 _ ?_|refine hK17 _ ?_|refine hK18 _ ?_|refine hK20 _ ?_|refine hK21 _ ?_);(try refine tB ?_);refine ⟨_,h,?_⟩;exact tU0;done)
 | (refine a9i (fun hc=>?_) (fun hc=>?_))
 | (refine tE ?_;(first|rw [M.lok_compU]|rw [M.lokD_compU]);refine tB ?_)
 | (refine tA ?_)
 | fail)
theorem g0k:∀n,(∀{c_:d9} {y:Bool},e1l n c_=some y→l9 Tryz.prog 86 [d9.v c_] [] (fun r H=>r=.bool y∧H=[]))
 | 0=>fun hy=>(by simp only [e1l] at hy;cases hy)
 | n+1=>by
  have ih_ref21_right:=@g0k n
  exact fun hy=>g32 ih_ref21_right _ (Q:=(·=_)) ⟨_,hy,rfl⟩ fun|_,rfl=>⟨rfl,rfl⟩
theorem W_d:∀{c_:d9} {y:Bool},F_d c_=some y→l9 Tryz.prog 86 [d9.v c_] [] (fun r H=>r=.bool y∧H=[]):=fun hy=>by
 obtain ⟨n,hn⟩:=a0n hy
 exact (g0k n) hn
instance c9r {c_:d9}:WI (F_d c_) Tryz.prog 86 [d9.v c_] [] (fun y=>.bool y) (fun y=>[]):=⟨fun Q Q' h hQ=>by obtain ⟨y,hy,hq⟩:=h;exact (W_d hy).mono fun r H' e=>by rw [e.1,e.2];exact hQ y hq⟩
def f7c (c_:d9):Option Int :=
 (F_q c_ 0).bind fun y4=>bif decide (60<y4) then some 3 else (F_r c_).bind fun y8=>bif decide (20<y8) then some 9 else (F_d c_).bind fun y12=>bif (!y12) then some 1 else some 0
instance g3e {c_:d9}:WJ (f7c c_) 50 [d9.v c_] (.int .i64):=wX Tryz.func50 [(5,⟨[.gc [1]],[],[]⟩)] (h:=fun _ _ h hQ M=>by unfold f7c at h;exact tX)
@[go_sem] def g1f (l_:List l7) (x109:Int):Option (Fl Int (Sum Unit Int)) :=
 bif decide (x109<(l_.length:Int)) then chk (inb x109 l_.length) ((e1f ((l_.getD (x109).toNat default).Name)).bind fun y143=>bif (!y143) then some (.ex (.inr 4)) else chk (inb x109 l_.length) ((f7c ((l_.getD (x109).toNat default).When)).bind fun y147=>bif (!decide (y147=0)) then some (.ex (.inr y147)) else chk (inb x109 l_.length) (jn (α:=Bool) (bif (!decide ((l_.getD (x109).toNat default).Verdict=1)) then chk (inb x109 l_.length) (some (!decide ((l_.getD (x109).toNat default).Verdict=2))) else some false) fun j149=>bif j149 then some (.ex (.inr 1)) else chk (a0c (x109+1)) (some (.nx (x109+1)))))) else some (.ex (.inl ()))
@[go_sem] def g1c (l_:List l7) (x221:Int) (x242:Int):Option (Fl Int (Sum Unit Int)) :=
 bif decide (x242<x221) then chk (inb x221 l_.length) (chk (inb x242 l_.length) (bif decide ((l_.getD (x221).toNat default).Name=(l_.getD (x242).toNat default).Name) then some (.ex (.inr 7)) else chk (a0c (x242+1)) (some (.nx (x242+1))))) else some (.ex (.inl ()))
@[go_sem] def g0y (l_:List l7) (x221:Int):Option (Fl Int (Sum Unit Int)) :=
 bif decide (x221<(l_.length:Int)) then (loop (g1c l_ x221) 0).bind fun r243=>Sum.elim (fun u244=>chk (a0c (x221+1)) (some (.nx (x221+1)))) (fun u245=>some (.ex (.inr u245))) r243 else some (.ex (.inl ()))
def f7x (l_:List l7):Option Int :=
 bif decide (40<(l_.length:Int)) then some 3 else (loop (g1f l_) 0).bind fun r150=>Sum.elim (fun u151=>(loop (g0y l_) 0).bind fun r246=>Sum.elim (fun u247=>some 0) (fun u248=>some u248) r246) (fun u152=>some u152) r150
def f0l:List (Nat×RN):=[(8,⟨[.gc [0,3,39,40,41,42,43,44]],[],[]⟩),(11,⟨[.gc [0,3,39,40,41,42,43,44]],[],[.w 7 13 281107]⟩),(18,⟨[.gc [0,5,6]],[],[]⟩)]
@[irreducible] def d1k:MC:=rdc (cK Tryz.prog Tryz.f28 f0l [] 4)
@[irreducible] def d8v:MC:=rdc (cK Tryz.prog Tryz.f28 f0l [(4,d1k)] 17)
@[irreducible] def e5i:MC:=rdc (cK Tryz.prog Tryz.f28 f0l [(4,d1k),(17,d8v)] 14)
instance f0h {m:List MOp}:GI (gjt 281107 m) [0,3] [] (fun y:Bool=>[(45,.bool y)]) (fun y=>[]):=⟨⟩
instance:LI d1k 0 0 [0] [] (fun y:Int=>[(3,.int .i64 y)]) (fun y=>[]) []:=⟨⟩
instance:LI d8v 0 0 [0,5] [] (fun y:Int=>[(6,.int .i64 y)]) (fun y=>[]) []:=⟨⟩
instance:LI e5i 0 0 [0] [] (fun y:Int=>[(5,.int .i64 y)]) (fun y=>[]) []:=⟨⟩
instance g4e {l_:List l7}:WJ (f7x l_) 28 [.sl (l_.map l7.v)] (.int .i64):=wX Tryz.func28 f0l [(4,d1k),(17,d8v),(14,e5i)] (h:=fun _ _ h hQ M=>by unfold f7x at h;exact tX)
def f7f:Option (List Str) :=
 some [[],[107,105,110,100],[112,97,116,104],[101,110,100,115],[115,111,117,114,99,101],[100,101,112,116,104],[108,101,110,103,116,104],[112,114,105,110,116],[98,101,102,111,114,101],[110,111,116],[97,110,100],[111,114]]
instance f6p:WJ f7f 51 [] fun z=>.sl (z.map V.str):=wX Tryz.func51 [] [] [.fz 0] (h:=fun _ _ h hQ M=>by unfold f7f at h;exact tX)
def e1g:Nat→Int→Option Str
 | 0,_=>none
 | n+1,n_ =>
 bif decide (n_<10) then some [(u8 (48+((u8 n_).toNat:Int)))] else chk (c4t n_ 10) ((e1g n (n_ / 10)).bind fun y2=>chk (c4t n_ 10) (chk (a1o (y2.length+[(u8 (48+((u8 (n_ % 10)).toNat:Int)))].length)) (some (y2++[(u8 (48+((u8 (n_ % 10)).toNat:Int)))]))))
def F_u (n_:Int):Option Str:=lim fun n=>e1g n n_
def f8f:MC:=rdc (cT Tryz.prog Tryz.f52 [] [])
theorem g2l {n:Nat} (ih_ref21_decimal:∀{n_:Int} {y:Str},e1g n n_=some y→l9 Tryz.prog 52 [.int .u64 n_] [] (fun r H=>r=.str y∧H=[])) (n_:Int) {Q:Str→Prop} {Q':V→Heap→Prop} (h:Ok (e1g (n+1) n_) Q) (hQ:∀z,Q z→Q' (.str z) []):l9 Tryz.prog 52 [.int .u64 n_] [] Q':=by
 refine a0s f8f [] [] [.t 2] Tryz.func52 fun M=>?_
 simp only [e1g] at h
 unfold f8f
 replace h:=tY h
 refine tB ?_
 repeat' (first
 | (exact tZ)
 | ((first|refine a6y h ?_|refine a1i h ?_|refine c9o h ?_|refine fork h ?_ ?_|refine a1j h ?_ ?_)<;>clear h<;>intro hc h)
 | (obtain ⟨y,hy,h⟩:=h;have hw:=ih_ref21_decimal hy;replace hw:=tY hw;(first|refine M.sC hw ?_|refine M.sD hw ?_);clear hw hy;refine tB ?_)
 | (refine tE ?_;(first|rw [M.lok_compU]|rw [M.lokD_compU]);refine tB ?_)
 | (refine tA ?_)
 | fail)
theorem g09:∀n,(∀{n_:Int} {y:Str},e1g n n_=some y→l9 Tryz.prog 52 [.int .u64 n_] [] (fun r H=>r=.str y∧H=[]))
 | 0=>fun hy=>(by simp only [e1g] at hy;cases hy)
 | n+1=>by
  have ih_ref21_decimal:=@g09 n
  exact fun hy=>g2l ih_ref21_decimal _ (Q:=(·=_)) ⟨_,hy,rfl⟩ fun|_,rfl=>⟨rfl,rfl⟩
theorem W_u:∀{n_:Int} {y:Str},F_u n_=some y→l9 Tryz.prog 52 [.int .u64 n_] [] (fun r H=>r=.str y∧H=[]):=fun hy=>by
 obtain ⟨n,hn⟩:=a0n hy
 exact (g09 n) hn
instance c5m {n_:Int}:WI (F_u n_) Tryz.prog 52 [.int .u64 n_] [] (fun y=>.str y) (fun y=>[]):=⟨fun Q Q' h hQ=>by obtain ⟨y,hy,hq⟩:=h;exact (W_u hy).mono fun r H' e=>by rw [e.1,e.2];exact hQ y hq⟩
def d4y:Nat→d9→Option Str
 | 0,_=>none
 | n+1,c_ =>
 f7f.bind fun y2=>chk (inb c_.Op y2.length) (jn (α:=Bool) (bif decide (c_.Op=1) then some true else bif decide (c_.Op=2) then some true else some (decide (c_.Op=3))) fun j11=>bif j11 then chk (a1o ((y2.getD (c_.Op).toNat default).length+[32,34].length)) (chk (a1o (((y2.getD (c_.Op).toNat default)++[32,34]).length+c_.Text.length)) (chk (a1o ((((y2.getD (c_.Op).toNat default)++[32,34])++c_.Text).length+[34].length)) (some ((((y2.getD (c_.Op).toNat default)++[32,34])++c_.Text)++[34])))) else jn (α:=Bool) (bif decide (c_.Op=4) then some true else bif decide (c_.Op=5) then some true else bif decide (c_.Op=6) then some true else some (decide (c_.Op=8))) fun j12=>bif j12 then chk (a1o ((y2.getD (c_.Op).toNat default).length+[32].length)) ((F_5 c_.Number).bind fun y14=>chk (a1o (((y2.getD (c_.Op).toNat default)++[32]).length+y14.length)) (some (((y2.getD (c_.Op).toNat default)++[32])++y14))) else bif decide (c_.Op=7) then chk (a1o ((y2.getD (c_.Op).toNat default).length+[32].length)) ((F_u c_.Print).bind fun y16=>chk (a1o (((y2.getD (c_.Op).toNat default)++[32]).length+y16.length)) (some (((y2.getD (c_.Op).toNat default)++[32])++y16))) else bif decide (c_.Op=9) then chk (a1o ((y2.getD (c_.Op).toNat default).length+[32,40].length)) (chk (inb 0 c_.Kids.length) ((d4y n (c_.Kids.getD 0 default)).bind fun y18=>chk (a1o (((y2.getD (c_.Op).toNat default)++[32,40]).length+y18.length)) (chk (a1o ((((y2.getD (c_.Op).toNat default)++[32,40])++y18).length+[41].length)) (some ((((y2.getD (c_.Op).toNat default)++[32,40])++y18)++[41]))))) else (loop (fun (x45:Str×Int)=>(bif decide (x45.2<(c_.Kids.length:Int)) then jn (α:=Str) (bif decide (0<x45.2) then chk (a1o ([32].length+(y2.getD (c_.Op).toNat default).length)) (chk (a1o ((([32]:Str)++(y2.getD (c_.Op).toNat default)).length+[32].length)) (chk (a1o (x45.1.length+((([32]:Str)++(y2.getD (c_.Op).toNat default))++[32]).length)) (some (x45.1++((([32]:Str)++(y2.getD (c_.Op).toNat default))++[32]))))) else some x45.1) fun j52=>chk (inb x45.2 c_.Kids.length) ((d4y n (c_.Kids.getD (x45.2).toNat default)).bind fun y53=>chk (a1o (j52.length+y53.length)) (chk (a0c (x45.2+1)) (some (.nx ((j52++y53),(x45.2+1)))))) else some (.ex x45.1):Option (Fl (Str×Int) Str))) ([40],0)).bind fun r54=>chk (a1o (r54.length+[41].length)) (some (r54++[41])))
def F_e (c_:d9):Option Str:=lim fun n=>d4y n c_
def a_e:List (Nat×RN):=[(19,⟨[.gc [1,3,4,5]],[],[]⟩)]
@[irreducible] def c4f:MC:=rdc (cK Tryz.prog Tryz.f29 a_e [] 10000011)
@[irreducible] def c6v:MC:=rdc (cK Tryz.prog Tryz.f29 a_e [(10000011,c4f)] 10000006)
@[irreducible] def d17:MC:=rdc (cK Tryz.prog Tryz.f29 a_e [(10000011,c4f),(10000006,c6v)] 10000022)
@[irreducible] def d8j:MC:=rdc (cK Tryz.prog Tryz.f29 a_e [(10000011,c4f),(10000006,c6v),(10000022,d17)] 18)
def f8v:MC:=rdc (cT Tryz.prog Tryz.f29 a_e [(10000011,c4f),(10000006,c6v),(10000022,d17),(18,d8j)])
theorem g31 {n:Nat} (ih_ref21_write:∀{c_:d9} {y:Str},d4y n c_=some y→l9 Tryz.prog 29 [d9.v c_] [] (fun r H=>r=.str y∧H=[])) (c_:d9) {Q:Str→Prop} {Q':V→Heap→Prop} (h:Ok (d4y (n+1) c_) Q) (hQ:∀z,Q z→Q' (.str z) []):l9 Tryz.prog 29 [d9.v c_] [] Q':=by
 refine a0s f8v [] [] [.t 2] Tryz.func29 fun M=>?_
 simp only [d4y] at h
 unfold f8v
 replace h:=tY h
 refine tB ?_
 repeat' (first
 | (exact tZ)
 | ((first|refine a6y h ?_|refine a1i h ?_|refine fork h ?_ ?_|refine a1j h ?_ ?_)<;>clear h<;>intro hc h)
 | (obtain ⟨y,hy,h⟩:=h;(first|with_reducible first|have hw:=f6p.c.w hy|have hw:=W_5 hy|have hw:=W_u hy|have hw:=ih_ref21_write hy);replace hw:=tY hw;(first|refine M.sC hw ?_|refine M.sD hw ?_);clear hw hy;refine tB ?_)
 | (refine M.jn1 (b:=d17) [1,3,5] [1] (fun y=>[(4,.str y)]) (fun y=>[]) [] h ?_ ?_<;>first
 | (clear h;intro Qn K hK1 h;replace h:=tY h;refine tB ?_)
  |(clear h;intro y h;unfold d17;replace h:=tY h;refine tB ?_))
 | (refine M.wh1 (b:=d8j) [1,3] [1] (fun x=>[(4,.str x.1),(5,.int .i64 x.2)]) (fun x=>[]) [] h ?_ ?_<;>first
 | (clear h;intro x Qn K hK2 h;unfold d8j;replace h:=tY h;refine tB ?_)
  |(clear h;(try refine tB ?_);exact tU0;done))
 | (refine M.jn1 (b:=c4f) [1,3,12] [1] (fun y=>[(23,.bool y)]) (fun y=>[]) [] h ?_ ?_<;>first
 | (clear h;intro Qn K hK3 h;replace h:=tY h;refine tB ?_)
  |(clear h;intro y h;unfold c4f;replace h:=tY h;refine tB ?_))
 | (refine M.jn1 (b:=c6v) [1,3,12] [1] (fun y=>[(13,.bool y)]) (fun y=>[]) [] h ?_ ?_<;>first
 | (clear h;intro Qn K hK4 h;replace h:=tY h;refine tB ?_)
  |(clear h;intro y h;unfold c6v;replace h:=tY h;refine tB ?_))
 | ((first|refine hK1 _ ?_|refine hK2 _ ?_|refine hK3 _ ?_|refine hK4 _ ?_);(try refine tB ?_);refine ⟨_,h,?_⟩;exact tU0;done)
 | (refine tE ?_;(first|rw [M.lok_compU]|rw [M.lokD_compU]);refine tB ?_)
 | (refine tA ?_)
 | fail)
theorem g0j:∀n,(∀{c_:d9} {y:Str},d4y n c_=some y→l9 Tryz.prog 29 [d9.v c_] [] (fun r H=>r=.str y∧H=[]))
 | 0=>fun hy=>(by simp only [d4y] at hy;cases hy)
 | n+1=>by
  have ih_ref21_write:=@g0j n
  exact fun hy=>g31 ih_ref21_write _ (Q:=(·=_)) ⟨_,hy,rfl⟩ fun|_,rfl=>⟨rfl,rfl⟩
theorem W_e:∀{c_:d9} {y:Str},F_e c_=some y→l9 Tryz.prog 29 [d9.v c_] [] (fun r H=>r=.str y∧H=[]):=fun hy=>by
 obtain ⟨n,hn⟩:=a0n hy
 exact (g0j n) hn
instance c9q {c_:d9}:WI (F_e c_) Tryz.prog 29 [d9.v c_] [] (fun y=>.str y) (fun y=>[]):=⟨fun Q Q' h hQ=>by obtain ⟨y,hy,hq⟩:=h;exact (W_e hy).mono fun r H' e=>by rw [e.1,e.2];exact hQ y hq⟩
@[go_sem] def g0x (l_:List l7) (x31:Str×Int):Option (Fl (Str×Int) Str) :=
 bif decide (x31.2<(l_.length:Int)) then jn (α:=Str) (chk (inb x31.2 l_.length) (bif decide ((l_.getD (x31.2).toNat default).Verdict=2) then some [102,97,108,115,101] else some [114,101,97,108])) fun j38=>chk (inb x31.2 l_.length) (chk (a1o (((l_.getD (x31.2).toNat default).Name).length+[58,32].length)) (chk (a1o (((l_.getD (x31.2).toNat default).Name++[58,32]).length+j38.length)) (chk (a1o ((((l_.getD (x31.2).toNat default).Name++[58,32])++j38).length+[32,105,102,32].length)) (chk (inb x31.2 l_.length) ((F_e ((l_.getD (x31.2).toNat default).When)).bind fun y39=>chk (a1o (((((l_.getD (x31.2).toNat default).Name++[58,32])++j38)++[32,105,102,32]).length+y39.length)) (chk (a1o ((((((l_.getD (x31.2).toNat default).Name++[58,32])++j38)++[32,105,102,32])++y39).length+[10].length)) (chk (a1o (x31.1.length+((((((l_.getD (x31.2).toNat default).Name++[58,32])++j38)++[32,105,102,32])++y39)++[10]).length)) (chk (a0c (x31.2+1)) (some (.nx ((x31.1++((((((l_.getD (x31.2).toNat default).Name++[58,32])++j38)++[32,105,102,32])++y39)++[10])),(x31.2+1)))))))))))) else some (.ex x31.1)
def g1e (l_:List l7):Option (Str×Int) :=
 (f7x l_).bind fun y4=>bif (!decide (y4=0)) then some ([],y4) else (loop (g0x l_) ([],0)).bind fun r40=>some (r40,0)
def f6g:List (Nat×RN):=[(7,⟨[.gc [0,5,6]],[],[]⟩)]
@[irreducible] def d8i:MC:=rdc (cK Tryz.prog Tryz.f9 f6g [] 10000011)
@[irreducible] def e5h:MC:=rdc (cK Tryz.prog Tryz.f9 f6g [(10000011,d8i)] 6)
instance:LI d8i 0 0 [0,5,6] [] (fun y:Str=>[(7,.str y)]) (fun y=>[]) []:=⟨⟩
instance:LI e5h 0 0 [0] [] (fun y:Str×Int=>[(5,.str y.1),(6,.int .i64 y.2)]) (fun y=>[]) []:=⟨⟩
instance g3z {l_:List l7}:WJ (g1e l_) 9 [.sl (l_.map l7.v)] fun z=>.tup [.str z.1,.int .i64 z.2]:=wX Tryz.func9 f6g [(10000011,d8i),(6,e5h)] (h:=fun _ _ h hQ M=>by unfold g1e at h;exact tX)
def e1h:Nat→d9→d9→Option Bool
 | 0,_,_=>none
 | n+1,a_,b_ =>
 grp (((!decide (a_.Op=b_.Op))||(!decide (a_.Text=b_.Text)))) fun b13=>grp ((b13||(!decide (a_.Number=b_.Number)))) fun b14=>grp ((b14||(!decide (a_.Print=b_.Print)))) fun b15=>grp ((b15||(!decide ((a_.Kids.length:Int)=(b_.Kids.length:Int))))) fun b16=>bif b16 then some false else (loop (fun (x45:Int)=>(bif decide (x45<(a_.Kids.length:Int)) then chk (inb x45 a_.Kids.length) (chk (inb x45 b_.Kids.length) ((e1h n (a_.Kids.getD (x45).toNat default) (b_.Kids.getD (x45).toNat default)).bind fun y53=>bif (!y53) then some (.ex (.inr false)) else chk (a0c (x45+1)) (some (.nx (x45+1))))) else some (.ex (.inl ())):Option (Fl Int (Sum Unit Bool)))) 0).bind fun r54=>Sum.elim (fun u55=>some true) (fun u56=>some u56) r54
def F_s (a_:d9) (b_:d9):Option Bool:=lim fun n=>e1h n a_ b_
@[irreducible] def d75:List MOp:=rdc (cG Tryz.prog Tryz.f37 [] 1 6 11)
@[irreducible] def d74:List MOp:=rdc (cG Tryz.prog Tryz.f37 [] 1 13 18)
@[irreducible] def d73:List MOp:=rdc (cG Tryz.prog Tryz.f37 [] 1 20 25)
@[irreducible] def d72:List MOp:=rdc (cG Tryz.prog Tryz.f37 [] 1 27 34)
def a_s:List (Nat×RN):=[(1,⟨[],[],[.u 6 11 d75,.u 13 18 d74,.u 20 25 d73,.u 27 34 d72]⟩),(5,⟨[.gc [2,3,5]],[],[]⟩)]
@[irreducible] def d8h:MC:=rdc (cK Tryz.prog Tryz.f37 a_s [] 4)
def f8h:MC:=rdc (cT Tryz.prog Tryz.f37 a_s [(4,d8h)])
theorem g2n {n:Nat} (ih_ref21_SameTerm:∀{a_:d9} {b_:d9} {y:Bool},e1h n a_ b_=some y→l9 Tryz.prog 37 [d9.v a_,d9.v b_] [] (fun r H=>r=.bool y∧H=[])) (a_:d9) (b_:d9) {Q:Bool→Prop} {Q':V→Heap→Prop} (h:Ok (e1h (n+1) a_ b_) Q) (hQ:∀z,Q z→Q' (.bool z) []):l9 Tryz.prog 37 [d9.v a_,d9.v b_] [] Q':=by
 refine a0s f8h [] [] [.t 4] Tryz.func37 fun M=>?_
 simp only [e1h] at h
 unfold f8h
 replace h:=tY h
 refine tB ?_
 repeat' (first
 | (exact tZ)
 | ((first|refine a6y h ?_|refine a1i h ?_|refine fork h ?_ ?_|refine a1j h ?_ ?_)<;>clear h<;>intro hc h)
 | (obtain ⟨y,hy,h⟩:=h;have hw:=ih_ref21_SameTerm hy;replace hw:=tY hw;(first|refine M.sC hw ?_|refine M.sD hw ?_);clear hw hy;refine tB ?_)
 | (refine M.wh1 (b:=d8h) [2,3] [3,2] (fun x=>[(5,.int .i64 x)]) (fun x=>[]) [] h ?_ ?_<;>first
 | (clear h;intro x Qn K hK1 h;unfold d8h;replace h:=tY h;refine tB ?_)
  |(clear h;(try refine tB ?_);exact tU0;done))
 | (refine M.gv1 (ms:=d72) 40 [33,34,35,36,37,38,39] h ?_ ?_<;>first
 | (clear h;intro K hK2;unfold d72;refine tB ?_)
 | (clear h;intro b h;replace h:=tY h;refine tB ?_))
 | (refine M.gv1 (ms:=d73) 31 [26,27,28,29,30] h ?_ ?_<;>first
 | (clear h;intro K hK3;unfold d73;refine tB ?_)
 | (clear h;intro b h;replace h:=tY h;refine tB ?_))
 | (refine M.gv1 (ms:=d74) 24 [19,20,21,22,23] h ?_ ?_<;>first
 | (clear h;intro K hK4;unfold d74;refine tB ?_)
 | (clear h;intro b h;replace h:=tY h;refine tB ?_))
 | (refine M.gv1 (ms:=d75) 17 [12,13,14,15,16] h ?_ ?_<;>first
 | (clear h;intro K hK5;unfold d75;refine tB ?_)
 | (clear h;intro b h;replace h:=tY h;refine tB ?_))
 | (refine hK1 _ ?_;(try refine tB ?_);refine ⟨_,h,?_⟩;exact tU0;done)
 | ((first|refine hK2 _ ?_|refine hK3 _ ?_|refine hK4 _ ?_|refine hK5 _ ?_);exact tU;done)
 | (refine a9i (fun hc=>?_) (fun hc=>?_))
 | (refine tE ?_;(first|rw [M.lok_compU]|rw [M.lokD_compU]);refine tB ?_)
 | (refine tA ?_)
 | fail)
theorem g0a:∀n,(∀{a_:d9} {b_:d9} {y:Bool},e1h n a_ b_=some y→l9 Tryz.prog 37 [d9.v a_,d9.v b_] [] (fun r H=>r=.bool y∧H=[]))
 | 0=>fun hy=>(by simp only [e1h] at hy;cases hy)
 | n+1=>by
  have ih_ref21_SameTerm:=@g0a n
  exact fun hy=>g2n ih_ref21_SameTerm _ _ (Q:=(·=_)) ⟨_,hy,rfl⟩ fun|_,rfl=>⟨rfl,rfl⟩
theorem W_s:∀{a_:d9} {b_:d9} {y:Bool},F_s a_ b_=some y→l9 Tryz.prog 37 [d9.v a_,d9.v b_] [] (fun r H=>r=.bool y∧H=[]):=fun hy=>by
 obtain ⟨n,hn⟩:=a0n hy
 exact (g0a n) hn
instance c5e {a_:d9} {b_:d9}:WI (F_s a_ b_) Tryz.prog 37 [d9.v a_,d9.v b_] [] (fun y=>.bool y) (fun y=>[]):=⟨fun Q Q' h hQ=>by obtain ⟨y,hy,hq⟩:=h;exact (W_s hy).mono fun r H' e=>by rw [e.1,e.2];exact hQ y hq⟩
@[go_sem] def g0w (a_:List l7) (b_:List l7) (x29:Int):Option (Fl Int (Sum Unit Bool)) :=
 bif decide (x29<(a_.length:Int)) then chk (inb x29 a_.length) (chk (inb x29 b_.length) (bif (!decide ((a_.getD (x29).toNat default).Name=(b_.getD (x29).toNat default).Name)) then some (.ex (.inr false)) else chk (inb x29 a_.length) (chk (inb x29 b_.length) (bif (!decide ((a_.getD (x29).toNat default).Verdict=(b_.getD (x29).toNat default).Verdict)) then some (.ex (.inr false)) else chk (inb x29 a_.length) (chk (inb x29 b_.length) ((F_s ((a_.getD (x29).toNat default).When) ((b_.getD (x29).toNat default).When)).bind fun y37=>bif (!y37) then some (.ex (.inr false)) else chk (a0c (x29+1)) (some (.nx (x29+1))))))))) else some (.ex (.inl ()))
def g1b (a_:List l7) (b_:List l7):Option Bool :=
 bif (!decide ((a_.length:Int)=(b_.length:Int))) then some false else (loop (g0w a_ b_) 0).bind fun r38=>Sum.elim (fun u39=>some true) (fun u40=>some u40) r38
def f9o:List (Nat×RN):=[(5,⟨[.gc [0,1,5,29,30,31,32,33,34,35,36,37,38,39,42,43,44,45,46,47,48,49,50,51,52,53]],[],[]⟩)]
@[irreducible] def e5g:MC:=rdc (cK Tryz.prog Tryz.f14 f9o [] 4)
instance:LI e5g 0 0 [0,1] [] (fun y:Int=>[(5,.int .i64 y)]) (fun y=>[]) []:=⟨⟩
instance g3o {a_ b_:List l7}:WJ (g1b a_ b_) 14 [.sl (a_.map l7.v),.sl (b_.map l7.v)] .bool:=wX Tryz.func14 f9o [(4,e5g)] (h:=fun _ _ h hQ M=>by unfold g1b at h;exact tX)
mutual
def d4x:Nat→(List d9)→(List d9)→Option Bool
 | 0,_,_=>none
 | n+1,s1_,s2_ =>
 bif (!decide ((s1_.length:Int)=(s2_.length:Int))) then some false else (forL (fun (k31:Int) (a32:d9) (x30:Unit)=>(chk (inb k31 s2_.length) ((d4w n a32 (s2_.getD (k31).toNat default)).bind fun y40=>bif (!y40) then some (.ex false) else some (.nx ())):Option (Fl Unit Bool))) s1_ 0 ()).bind fun o=>o.elim (fun x41=>some true) (fun r42=>some r42)
def d4w:Nat→d9→d9→Option Bool
 | 0,_,_=>none
 | n+1,a_,b_ =>
 grp ((decide (a_.Op=b_.Op)&&decide (a_.Text=b_.Text))) fun b6=>grp ((b6&&decide (a_.Number=b_.Number))) fun b7=>grp ((b7&&decide (a_.Print=b_.Print))) fun b8=>jn (α:=Bool) (bif b8 then (d4x n a_.Kids b_.Kids).bind fun y10=>some y10 else some false) fun j11=>some j11
end
def F_v (s1_:List d9) (s2_:List d9):Option Bool:=lim fun n=>d4x n s1_ s2_
def F_x (a_:d9) (b_:d9):Option Bool:=lim fun n=>d4w n a_ b_
def a_v:List (Nat×RN):=[(7,⟨[.gc [1,2,8,9,15,16,17]],[],[]⟩)]
@[irreducible] def d16:MC:=rdc (cK Tryz.prog Tryz.f83 a_v [] 4)
def f8e:MC:=rdc (cT Tryz.prog Tryz.f83 a_v [(4,d16)])
theorem g2k {n:Nat} (ih_slices_EqualFunc_api_Term_api_Term_api_Term_api_Term_of_rule_same:∀{s1_:List d9} {s2_:List d9} {y:Bool},d4x n s1_ s2_=some y→l9 Tryz.prog 83 [.sl (s1_.map d9.v),.sl (s2_.map d9.v),.fn (.func 48) []] [] (fun r H=>r=.bool y∧H=[])) (ih_rule_same:∀{a_:d9} {b_:d9} {y:Bool},d4w n a_ b_=some y→l9 Tryz.prog 48 [d9.v a_,d9.v b_] [] (fun r H=>r=.bool y∧H=[])) (s1_:List d9) (s2_:List d9) {Q:Bool→Prop} {Q':V→Heap→Prop} (h:Ok (d4x (n+1) s1_ s2_) Q) (hQ:∀z,Q z→Q' (.bool z) []):l9 Tryz.prog 83 [.sl (s1_.map d9.v),.sl (s2_.map d9.v),.fn (.func 48) []] [] Q':=by
 refine a0s f8e [] [] [.t 6] Tryz.func83 fun M=>?_
 simp only [d4x] at h
 unfold f8e
 replace h:=tY h
 refine tB ?_
 repeat' (first
 | (exact tZ)
 | ((first|refine a6y h ?_|refine a1i h ?_|refine fork h ?_ ?_|refine a1j h ?_ ?_)<;>clear h<;>intro hc h)
 | (obtain ⟨y,hy,h⟩:=h;have hw:=ih_rule_same hy;replace hw:=tY hw;(first|refine M.sC hw ?_|refine M.sD hw ?_);clear hw hy;refine tB ?_)
 | (refine M.for1 (b:=d16) 17 [1,2,15,16] [] (fun x=>[]) (fun x=>[]) [] h ?_ ?_ ?_<;>first
 | (clear h;intro k a x Qn K hK1 hkN1 ha1 h hf;have hl:=a4q (a14 (n:=16) hf.1 rfl);clear hf;have hkd:=kD hkN1;have hkB1:=kB hkN1;have hkI1:=kI (k:=k) (by omega);unfold d16;replace h:=tY h;refine tK ha1 hkd hkN1 hkB1 hkI1 ?_)
  |(clear h;intro x K h;replace h:=And.left (And.intro h trivial);unfold d16;replace h:=tY h;refine tB ?_)
  |(clear h;(try refine tB ?_);exact tU0;done))
 | (simp only [ha1])
 | (refine hK1 _ ?_;(try refine tB ?_);refine ⟨_,h,?_⟩;exact tU0;done)
 | (refine tE ?_;(first|rw [M.lok_compU]|rw [M.lokD_compU]);refine tB ?_)
 | (refine tA ?_)
 | fail)
@[irreducible] def d71:List MOp:=rdc (cG Tryz.prog Tryz.f48 [] 1 6 11)
@[irreducible] def d70:List MOp:=rdc (cG Tryz.prog Tryz.f48 [] 1 13 18)
@[irreducible] def d6z:List MOp:=rdc (cG Tryz.prog Tryz.f48 [] 1 20 25)
@[irreducible] def d6y:List MOp:=rdc (cG Tryz.prog Tryz.f48 [] 1 27 32)
def f8c:MC:=rdc (cT Tryz.prog Tryz.f48 [(1,⟨[],[],[.u 6 11 d71,.u 13 18 d70,.u 20 25 d6z,.u 27 32 d6y]⟩)] [])
theorem g2j {n:Nat} (ih_slices_EqualFunc_api_Term_api_Term_api_Term_api_Term_of_rule_same:∀{s1_:List d9} {s2_:List d9} {y:Bool},d4x n s1_ s2_=some y→l9 Tryz.prog 83 [.sl (s1_.map d9.v),.sl (s2_.map d9.v),.fn (.func 48) []] [] (fun r H=>r=.bool y∧H=[])) (ih_rule_same:∀{a_:d9} {b_:d9} {y:Bool},d4w n a_ b_=some y→l9 Tryz.prog 48 [d9.v a_,d9.v b_] [] (fun r H=>r=.bool y∧H=[])) (a_:d9) (b_:d9) {Q:Bool→Prop} {Q':V→Heap→Prop} (h:Ok (d4w (n+1) a_ b_) Q) (hQ:∀z,Q z→Q' (.bool z) []):l9 Tryz.prog 48 [d9.v a_,d9.v b_] [] Q':=by
 refine a0s f8c [] [] [.t 4] Tryz.func48 fun M=>?_
 simp only [d4w] at h
 unfold f8c
 replace h:=tY h
 refine tB ?_
 repeat' (first
 | (exact tZ)
 | ((first|refine a6y h ?_|refine a1i h ?_|refine fork h ?_ ?_|refine a1j h ?_ ?_)<;>clear h<;>intro hc h)
 | (obtain ⟨y,hy,h⟩:=h;have hw:=ih_slices_EqualFunc_api_Term_api_Term_api_Term_api_Term_of_rule_same hy;replace hw:=tY hw;(first|refine M.sC hw ?_|refine M.sD hw ?_);clear hw hy;refine tB ?_)
 | (refine M.gj1 (ms:=d6y) [4] [] (fun y=>[(37,.bool y)]) (fun y=>[]) h ?_ ?_<;>first
 | (clear h;intro Qn K hK1 h;unfold d6y;replace h:=tY h;refine tB ?_)
  |(clear h;intro y h;replace h:=tY h;refine tB ?_))
 | (refine M.gv1 (ms:=d6z) 30 [25,26,27,28,29] h ?_ ?_<;>first
 | (clear h;intro K hK2;unfold d6z;refine tB ?_)
 | (clear h;intro b h;replace h:=tY h;refine tB ?_))
 | (refine M.gv1 (ms:=d70) 23 [18,19,20,21,22] h ?_ ?_<;>first
 | (clear h;intro K hK3;unfold d70;refine tB ?_)
 | (clear h;intro b h;replace h:=tY h;refine tB ?_))
 | (refine M.gv1 (ms:=d71) 16 [11,12,13,14,15] h ?_ ?_<;>first
 | (clear h;intro K hK4;unfold d71;refine tB ?_)
 | (clear h;intro b h;replace h:=tY h;refine tB ?_))
 | (refine hK1 _ ?_;(try refine tB ?_);refine ⟨_,h,?_⟩;exact tU0;done)
 | ((first|refine hK2 _ ?_|refine hK3 _ ?_|refine hK4 _ ?_);exact tU;done)
 | (refine a9i (fun hc=>?_) (fun hc=>?_))
 | (refine tE ?_;(first|rw [M.lok_compU]|rw [M.lokD_compU]);refine tB ?_)
 | (refine tA ?_)
 | fail)
theorem e0v:∀n,(∀{s1_:List d9} {s2_:List d9} {y:Bool},d4x n s1_ s2_=some y→l9 Tryz.prog 83 [.sl (s1_.map d9.v),.sl (s2_.map d9.v),.fn (.func 48) []] [] (fun r H=>r=.bool y∧H=[]))∧(∀{a_:d9} {b_:d9} {y:Bool},d4w n a_ b_=some y→l9 Tryz.prog 48 [d9.v a_,d9.v b_] [] (fun r H=>r=.bool y∧H=[]))
 | 0=>⟨fun hy=>(by simp only [d4x] at hy;cases hy),fun hy=>(by simp only [d4w] at hy;cases hy)⟩
 | n+1=>by
  obtain ⟨ih_slices_EqualFunc_api_Term_api_Term_api_Term_api_Term_of_rule_same,ih_rule_same⟩:=e0v n
  refine ⟨?_,?_⟩
  ·exact fun hy=>g2k ih_slices_EqualFunc_api_Term_api_Term_api_Term_api_Term_of_rule_same ih_rule_same _ _ (Q:=(·=_)) ⟨_,hy,rfl⟩ fun|_,rfl=>⟨rfl,rfl⟩
  ·exact fun hy=>g2j ih_slices_EqualFunc_api_Term_api_Term_api_Term_api_Term_of_rule_same ih_rule_same _ _ (Q:=(·=_)) ⟨_,hy,rfl⟩ fun|_,rfl=>⟨rfl,rfl⟩
theorem W_v:∀{s1_:List d9} {s2_:List d9} {y:Bool},F_v s1_ s2_=some y→l9 Tryz.prog 83 [.sl (s1_.map d9.v),.sl (s2_.map d9.v),.fn (.func 48) []] [] (fun r H=>r=.bool y∧H=[]):=fun hy=>by
 obtain ⟨n,hn⟩:=a0n hy
 exact (e0v n).1 hn
instance a2n {s1_:List d9} {s2_:List d9}:WI (F_v s1_ s2_) Tryz.prog 83 [.sl (s1_.map d9.v),.sl (s2_.map d9.v),.fn (.func 48) []] [] (fun y=>.bool y) (fun y=>[]):=⟨fun Q Q' h hQ=>by obtain ⟨y,hy,hq⟩:=h;exact (W_v hy).mono fun r H' e=>by rw [e.1,e.2];exact hQ y hq⟩
theorem W_x:∀{a_:d9} {b_:d9} {y:Bool},F_x a_ b_=some y→l9 Tryz.prog 48 [d9.v a_,d9.v b_] [] (fun r H=>r=.bool y∧H=[]):=fun hy=>by
 obtain ⟨n,hn⟩:=a0n hy
 exact (e0v n).2 hn
instance d4m {a_:d9} {b_:d9}:WI (F_x a_ b_) Tryz.prog 48 [d9.v a_,d9.v b_] [] (fun y=>.bool y) (fun y=>[]):=⟨fun Q Q' h hQ=>by obtain ⟨y,hy,hq⟩:=h;exact (W_x hy).mono fun r H' e=>by rw [e.1,e.2];exact hQ y hq⟩
def f7b (x_:l7) (y_:l7):Option Bool :=
 grp ((decide (x_.Name=y_.Name)&&decide (x_.Verdict=y_.Verdict))) fun b4=>jn (α:=Bool) (bif b4 then (F_x x_.When y_.When).bind fun y6=>some y6 else some false) fun j7=>some j7
instance f0g {m:List MOp}:GI (gjt 470113 m) [4] [] (fun y:Bool=>[(23,.bool y)]) (fun y=>[]):=⟨⟩
instance g3d {x_ y_:l7}:WJ (f7b x_ y_) 47 [l7.v x_,l7.v y_] .bool:=wX Tryz.func47 [(1,⟨[],[],[.v 6 11,.w 13 18 470113]⟩)] (h:=fun _ _ h hQ M=>by unfold f7b at h;exact tX)
@[go_sem] def g0v (s2_:List l7) (k31:Int) (a32:l7) (x30:Unit):Option (Fl Unit Bool) :=
 chk (inb k31 s2_.length) ((f7b a32 (s2_.getD (k31).toNat default)).bind fun y40=>bif (!y40) then some (.ex false) else some (.nx ()))
def f7s (s1_:List l7) (s2_:List l7):Option Bool :=
 bif (!decide ((s1_.length:Int)=(s2_.length:Int))) then some false else (forL (g0v s2_) s1_ 0 ()).bind fun o=>o.elim (fun x41=>some true) (fun r42=>some r42)
def f9q:List (Nat×RN):=[(7,⟨[.gc [1,2,8,9,15,16,17]],[],[]⟩)]
@[irreducible] def e5f:MC:=rdc (cK Tryz.prog Tryz.f46 f9q [] 4)
instance:LI e5f 17 16 [1,2,15,16] [] (fun y:Unit=>[]) (fun y=>[]) []:=⟨⟩
instance g3y {s1_ s2_:List l7}:WJ (f7s s1_ s2_) 46 [.sl (s1_.map l7.v),.sl (s2_.map l7.v),.fn (.func 47) []] .bool:=wX Tryz.func46 f9q [(4,e5f)] (h:=fun _ _ h hQ M=>by unfold f7s at h;exact tX)
def g0t (a_:List l7) (b_:List l7):Option Bool :=
 (f7s a_ b_).bind fun y2=>some y2
instance g39 {a_ b_:List l7}:WJ (g0t a_ b_) 27 [.sl (a_.map l7.v),.sl (b_.map l7.v)] .bool:=wX Tryz.func27 (h:=fun _ _ h hQ M=>by unfold g0t at h;exact tX)
def g0s (l_:List l7):Option (Str×Int) :=
 (d3o l_).bind fun y4=>bif (!decide (y4=0)) then some ([],y4) else (e3d l_).bind fun y6=>some (y6,0)
instance g38 {l_:List l7}:WJ (g0s l_) 26 [.sl (l_.map l7.v)] fun z=>.tup [.str z.1,.int .i64 z.2]:=wX Tryz.func26 (h:=fun _ _ h hQ M=>by unfold g0s at h;exact tX)
end
end Go.Ab