/- Rules: the first rule that holds (for RuleFirst). -/
import Derived.Test.YtoojdaakeiadjaaGreatDoorPX
import Derived.Test.YtoojdaakeiadjaaGreatDoorLD
import Derived.Test.YtoojdaakeiadjaaGreatDoorMI
import Derived.Test.YtoojdaakeiadjaaGreatDoorAbFun
set_option linter.all false
namespace Go.Ab
open Go.Proofs
def fi (p:l7→Bool):List l7→Int→Int
 | [],_=>-1
 | a::r,k=>if p a then k else fi p r (k+1)
def fv (p:l7→Bool):List l7→Int
 | []=>1
 | a::r=>if p a then a.Verdict else fv p r
theorem f9j (p:l7→Bool):∀(a b:List l7) (k:Int),a.any p=true→fi p (a++b) k=fi p a k
 | [],b,k,h=>by cases h
 | x::a,b,k,h=>by
  show (if p x then k else fi p (a++b) (k+1))=(if p x then k else fi p a (k+1))
  by_cases hx:p x=true
  ·rw [if_pos hx,if_pos hx]
  ·rw [if_neg hx,if_neg hx]
   exact f9j p a b (k+1) (by rw [List.any_cons] at h;simpa [hx] using h)
theorem e78 (p:l7→Bool):∀(a b:List l7),a.any p=true→fv p (a++b)=fv p a
 | [],b,h=>by cases h
 | x::a,b,h=>by
  show (if p x then x.Verdict else fv p (a++b))=(if p x then x.Verdict else fv p a)
  by_cases hx:p x=true
  ·rw [if_pos hx,if_pos hx]
  ·rw [if_neg hx,if_neg hx]
   exact e78 p a b (by rw [List.any_cons] at h;simpa [hx] using h)
theorem f5n (p:l7→Bool):∀(a b:List l7),a.any p=false→fv p (a++b)=fv p b
 | [],b,h=>rfl
 | x::a,b,h=>by
  rw [List.any_cons,z4] at h
  show (if p x then x.Verdict else fv p (a++b))=_
  rw [if_neg (by rw [h.1];decide)]
  exact f5n p a b h.2
theorem c0y (p:l7→Bool):∀(l:List l7) (k:Int),0≤k→(fi p l k=-1∧fv p l=1∧l.any p=false)∨(k≤fi p l k∧fi p l k<k+l.length∧(l.getD (fi p l k - k).toNat default).Verdict=fv p l)
 | [],k,_=>.inl ⟨rfl,rfl,rfl⟩
 | x::l,k,hk=>by
  simp only [fi,fv,List.any_cons]
  cases hx:p x with
  | true =>
   refine .inr ⟨by simp,by simp;omega,?_⟩
   have:(k - k).toNat=0:=by omega
   simp
  | false =>
   rcases c0y p l (k+1) (by omega) with ⟨h1,h2,h3⟩|⟨h1,h2,h3⟩
   ·exact .inl ⟨by simpa using h1,by simpa using h2,by simpa using h3⟩
   ·refine .inr ⟨by simp;omega,by simp;omega,?_⟩
    have e:(fi p l (k+1) - k).toNat=(fi p l (k+1) - (k+1)).toNat+1:=by omega
    simp only [xF,if_false]
    rw [e,List.getD_cons_succ]
    exact h3
section
variable {ks:List l6} {f:l5} {s:l8}
theorem c2i (hs:s.Place.Path.length≤1000000):∀(l:List l7) (k:Int),(∀r∈l,Rgt r.When)→(forL (e1d ks f s) l k ()).bind (fun o=>o.elim (fun _=>some (-1)) fun r=>some r)=some (fi (fun r=>hold ks f s r.When) l k)
 | [],k,_=>rfl
 | a::l,k,h=>by
  have ih:=c2i hs l (k+1) fun r hr=>h r (by simp [hr])
  have e:e1d ks f s k a ()=some (if hold ks f s a.When then .ex k else .nx ()):=by
   unfold e1d e2r
   rw [d21 hs (h a (by simp))]
   cases hold ks f s a.When<;>rfl
  simp only [forL,e,xQ,fi]
  by_cases hx:hold ks f s a.When=true
  ·rw [if_pos hx,if_pos hx];rfl
  ·rw [if_neg hx,if_neg hx]
   simpa [Fl.elim] using ih
theorem c9g (hs:s.Place.Path.length≤1000000) {l:List l7} (h:∀r∈l,Rgt r.When):e1b l ks f s=some (fv (fun r=>hold ks f s r.When) l,fi (fun r=>hold ks f s r.When) l 0):=by
 refine Ok.eq ?_
 unfold e1b e2v
 rw [c2i hs l 0 h,xQ]
 rcases c0y (fun r=>hold ks f s r.When) l 0 (by omega) with ⟨h1,h2,_⟩|⟨h1,h2,h3⟩
 ·rw [h1,h2]
  exact Ok.ite (fun _=>Ok.ret rfl) fun c=>by cases c
 ·refine Ok.ite (fun c=>by have:=of_decide_eq_true c;omega) fun _=>Ok.chk (a18.2 ⟨h1,by omega⟩) (Ok.ret ?_)
  rw [Int.sub_zero] at h3
  rw [h3]
end
theorem b49 {ks:List l6} {f:l5} {i:Int} {l:List l7} (h0:0≤i) (h1:i<f.Where.length) (hs:(f.Where.getD i.toNat default).Place.Path.length≤1000000) (h:VR' l):c99 l ks f i=some (fv (fun r=>hold ks f (f.Where.getD i.toNat default) r.When) l,fi (fun r=>hold ks f (f.Where.getD i.toNat default) r.When) l 0):=by
 refine Ok.eq ?_
 unfold c99
 refine Ok.grp (Ok.ite (fun c=>by simp at c;omega) fun _=>?_)
 rw [valid_eq,c5o.2 h,xQ]
 refine Ok.ite (fun c=>by cases c) fun _=>Ok.chk (a18.2 ⟨h0,h1⟩) ?_
 rw [c9g hs fun r hr=>(h.r r hr).2.1.rgt,xQ]
 exact Ok.ret rfl
theorem c7w (p:l7→Bool) (a b:List l7) (x:l7) (hx:p x=true):fv p (a++[x])=fv p ((a++[x])++b)∧fi p (a++[x]) 0=fi p ((a++[x])++b) 0∧0≤fi p (a++[x]) 0:=by
 have e:(a++[x]).any p=true:=by simp [hx]
 refine ⟨(e78 p _ b e).symm,(f9j p _ b 0 e).symm,?_⟩
 rcases c0y p (a++[x]) 0 (by omega) with ⟨_,_,h⟩|⟨h,_⟩
 ·rw [e] at h;cases h
 ·exact h
theorem c4s (p:l7→Bool) (a b:List l7) (x:l7) (hx:p x=false):fv p (a++b)=fv p ((a++[x])++b):=by
 have e:(a++[x]).any p=a.any p:=by simp [hx]
 cases c:a.any p with
 | true=>rw [e78 p a b c,e78 p (a++[x]) b (e.trans c),e78 p a [x] c]
 | false=>rw [f5n p a b c,f5n p (a++[x]) b (e.trans c)]
def okS (k:Nat) (s:l8):Prop:=s.Place.Source=k∧s.Place.Path.length≤10∧s.Layers=[]
structure okF (i:Nat) (f:l5):Prop where
 k0:0≤f.Kind
 k1:f.Kind≤i+1
 p0:0≤f.Fingerprint
 p1:f.Fingerprint≤i+1
 w0:1≤f.Where.length
 w1:f.Where.length≤3
 w:∀k,k<f.Where.length→okS k (f.Where.getD k default)
structure okL (l:List l5):Prop where
 f:∀i,i<l.length→okF i (l.getD i default)
 s:∀i,i+1<l.length→(l.getD i default).Kind≤(l.getD (i+1) default).Kind∧(l.getD i default).Fingerprint<(l.getD (i+1) default).Fingerprint
theorem b0a {α:Type} [Inhabited α] (l:List α) (a:α) (i:Nat) (h:i<l.length+1):(i<l.length∧(l++[a]).getD i default=l.getD i default)∨(i=l.length∧(l++[a]).getD i default=a):=by
 by_cases c:i<l.length
 ·exact .inl ⟨c,by simp [zH c]⟩
 ·obtain rfl:i=l.length:=by omega
  exact .inr ⟨rfl,by simp⟩
theorem f4x:∀i,i<5→([[97],[49,58,97],[102,48],[100,111,99,115,47,120],[102,48,33,105,110]].getD i (default:Str)).length≤10:=by
 intro i hi
 have:i=0∨i=1∨i=2∨i=3∨i=4:=by omega
 rcases this with rfl|rfl|rfl|rfl|rfl<;>decide
theorem d08 {t:a06} (ht:TO t) (a b:Int):Ok (loop f1t (0,a,b,[],t)) fun r=>r.1=a∧r.2.1=b∧1≤r.2.2.1.length∧r.2.2.1.length≤3∧(∀k,k<r.2.2.1.length→okS k (r.2.2.1.getD k default))∧TO r.2.2.2:=by
 refine Ok.loop (Q:=fun r:Int×Int×List l8×a06=>r.1=a∧r.2.1=b∧1≤r.2.2.1.length∧r.2.2.1.length≤3∧(∀k,k<r.2.2.1.length→okS k (r.2.2.1.getD k default))∧TO r.2.2.2) (fun x:Int×Int×Int×List l8×a06=>x.1=x.2.2.2.1.length∧x.2.1=a∧x.2.2.1=b∧x.2.2.2.1.length≤3∧(∀k,k<x.2.2.2.1.length→okS k (x.2.2.2.1.getD k default))∧TO x.2.2.2.2) (fun x=>(3 - x.1).toNat) (fun x hx=>?_) _ ⟨rfl,rfl,rfl,by simp,by simp,ht⟩
 obtain ⟨s,a',b',l,t⟩:=x
 obtain ⟨h1,h2,h3,h4,h5,h6⟩:=hx
 dsimp only at h1 h2 h3 h4 h5 h6
 subst h1 h2 h3
 unfold f1t
 refine Ok.bind (b3d h6 (by omega) (by omega) (by omega)) fun y hy=>Ok.ite (fun c=>?_) fun c=>?_
 ·have c:(l.length:Int)<y.1:=of_decide_eq_true c
  refine Ok.bind (a7c hy.2.2 (by omega)) fun z hz=>Ok.chk (a18.2 ⟨hz.1,hz.2.1⟩) ?_
  refine Ok.bind (a7c hz.2.2 (by omega)) fun u hu=>Ok.bind (a7c hu.2.2 (by omega)) fun v hv=>Ok.bind (a7c hv.2.2 (by omega)) fun w hw=>?_
  refine Ok.chk (a1z (by omega) (by omega)) (Ok.chk (a7p (by simp;omega)) (Ok.chk (a1z (by dsimp only;omega) (by dsimp only;omega)) (Ok.ret ⟨⟨by dsimp only;simp,rfl,rfl,by dsimp only;simp;omega,fun k hk=>?_,hw.2.2⟩,by dsimp only;omega⟩)))
  dsimp only at hk ⊢
  rcases b0a l _ k (by simpa using hk) with ⟨g1,g2⟩|⟨g1,g2⟩
  ·rw [g2];exact h5 k g1
  ·rw [g2,g1]
   exact ⟨rfl,f4x _ (by have:=hz.1;have:=hz.2.1;omega),rfl⟩
 ·have c:¬(l.length:Int)<y.1:=of_decide_eq_false c
  exact Ok.ret ⟨rfl,rfl,by dsimp only;omega,h4,h5,hy.2.2⟩
theorem c0w {t:a06} (ht:TO t):Ok (f06 t) fun y=>okL y.1∧y.1.length≤3∧TO y.2:=by
 unfold f06
 refine Ok.bind (a7c ht (by omega)) fun n hn=>?_
 refine Ok.bind (Ok.loop (Q:=fun r:List l5×a06=>okL r.1∧r.1.length≤3∧TO r.2) (fun x:Int×List l5×a06=>0≤x.1∧x.1+x.2.1.length≤3∧okL x.2.1∧TO x.2.2) (fun x=>x.1.toNat) (fun x hx=>?_) _ ⟨hn.1,by have:=hn.2.1;simp;omega,⟨by simp,by simp⟩,hn.2.2⟩) fun r hr=>Ok.ret hr
 obtain ⟨k,l,t⟩:=x
 obtain ⟨h1,h2,h3,h4⟩:=hx
 dsimp only at h1 h2 h3 h4
 unfold f7r
 refine Ok.ite (fun c=>?_) fun c=>Ok.ret ⟨h3,by dsimp only;omega,h4⟩
 have c:0<k:=of_decide_eq_true c
 refine Ok.bind (a7c h4 (by omega)) fun y hy=>Ok.bind (a7c hy.2.2 (by omega)) fun z hz=>?_
 refine Ok.jn (P:=fun j:Int×Int×a06=>0≤j.1∧j.1≤l.length+1∧0≤j.2.1∧j.2.1≤l.length+1∧(∀i,i+1=l.length→(l.getD i default).Kind≤j.1∧(l.getD i default).Fingerprint<j.2.1)∧TO j.2.2) (Ok.ite (fun c1=>?_) fun c1=>Ok.ret ?_) fun j hj=>?_
 ·have c1:0<(l.length:Int):=of_decide_eq_true c1
  have e:((l.length:Int) - 1).toNat=l.length - 1:=by omega
  have hf:=h3.f (l.length - 1) (by omega)
  have a1:=hf.k0;have a2:=hf.k1;have a3:=hf.p0;have a4:=hf.p1
  dsimp only
  rw [e]
  refine Ok.chk (a1z (by omega) (by omega)) (Ok.chk (a18.2 ⟨by omega,by omega⟩) (Ok.bind (a7c hz.2.2 (by omega)) fun u hu=>Ok.chk (a1z (by omega) (by omega)) (Ok.ret ?_)))
  rw [wrp (by omega) (by omega)]
  refine ⟨by dsimp only;omega,by dsimp only;omega,by dsimp only;omega,by dsimp only;omega,fun i hi=>?_,hu.2.2⟩
  obtain rfl:i=l.length - 1:=by omega
  exact ⟨by dsimp only;omega,by dsimp only;omega⟩
 ·have c1:¬0<(l.length:Int):=of_decide_eq_false c1
  rw [wrp (z:=(l.length:Int)) (by omega) (by omega),wrp (z:=z.1) hz.1 (by omega),wrp (by omega) (by omega)]
  refine ⟨hy.1,by have:=hy.2.1;dsimp only;omega,by have:=hz.1;dsimp only;omega,by have:=hz.2.1;dsimp only;omega,fun i hi=>by omega,hz.2.2⟩
 ·obtain ⟨j1,j2,j3,j4,j5,j6⟩:=hj
  refine Ok.bind (d08 j6 j.1 j.2.1) fun r hr=>?_
  obtain ⟨r1,r2,r3,r4,r5,r6⟩:=hr
  rw [r1,r2]
  refine Ok.chk (a7p (by simp;omega)) (Ok.chk (a1z (by omega) (by omega)) (Ok.ret ⟨⟨by dsimp only;omega,by dsimp only;simp;omega,⟨fun i hi=>?_,fun i hi=>?_⟩,r6⟩,by dsimp only;omega⟩))
  ·dsimp only at hi ⊢
   rcases b0a l (l5.mk j.1 j.2.1 r.2.2.1) i (by simpa using hi) with ⟨g1,g2⟩|⟨g1,g2⟩
   ·rw [g2];exact h3.f i g1
   ·rw [g2,g1];exact ⟨j1,j2,j3,j4,r3,r4,r5⟩
  ·dsimp only at hi ⊢
   have hi':i+1<l.length+1:=by simpa using hi
   rcases b0a l (l5.mk j.1 j.2.1 r.2.2.1) i (by omega) with ⟨g1,g2⟩|⟨g1,g2⟩
   ·rcases b0a l (l5.mk j.1 j.2.1 r.2.2.1) (i+1) hi' with ⟨g3,g4⟩|⟨g3,g4⟩
    ·rw [g2,g4];exact h3.s i g3
    ·rw [g2,g4];exact j5 i g3
   ·omega
theorem c1j {P:Program} {f:FuncId} {ys:List V} {H:Heap} {Q:V→Heap→Prop} (hc:callable P f=true) (h:(∀y∈ys,y.fact)→l9 P f ys H Q):l9 P f ys H Q :=
 ⟨hc,fun g w vals hH hs hr=>(h fun y hy=>by
  obtain ⟨i,hi⟩:=List.getElem?_of_mem hy
  exact (hr i y hi).fact).2 g w vals hH hs hr⟩
theorem c7g {a b:List l7} {x:l7} (h:VR' (a++b)) (hl:(a++b).length≤39) (hx:b5z x.Name∧PV x.When∧(x.Verdict=1∨x.Verdict=2)) (hn:∀r∈a++b,r.Name≠x.Name):VR' ((a++[x])++b):=by
 refine ⟨by simp at hl ⊢;omega,fun r hr=>?_,?_⟩
 ·rcases wC.1 hr with hr|hr
  ·rcases wC.1 hr with hr|hr
   ·exact h.r r (by simp [hr])
   ·cases z9.1 hr;exact hx
  ·exact h.r r (by simp [hr])
 ·have hu:=h.u
  unfold uniq at hu ⊢
  have e:((a++[x])++b).map l7.Name=a.map l7.Name++x.Name::b.map l7.Name:=by simp
  rw [e,List.perm_middle.nodup_iff,List.nodup_cons,←List.map_append]
  refine ⟨fun hm=>?_,hu⟩
  obtain ⟨r,hr,he⟩:=wZ.1 hm
  exact hn r hr he
theorem e4l {a b:List l7} (h:VR' (a++b)):VR' a:=⟨by have:=h.n;simp at this;omega,fun r hr=>h.r r (by simp [hr]),c1m h.u⟩
def alw:l7:=l7.mk [97,108,119,97,121,115] (d9.mk 5 [] 0 0 []) 2
def nev:l7:=l7.mk [110,101,118,101,114] (d9.mk 9 [] 0 0 [(d9.mk 5 [] 0 0 [])]) 2
theorem f8a:Rgt (d9.mk 5 [] 0 0 []):=.mk _ (.inr (.inl ⟨.inr (.inl rfl),rfl,by decide,by decide,rfl,rfl⟩)) (by simp)
theorem g1t:Rgt nev.When:=.mk _ (.inr (.inr (.inr ⟨.inl rfl,rfl,rfl,rfl,.inl ⟨rfl,rfl⟩⟩))) (by simp [nev];exact f8a)
theorem d4j:b5z alw.Name∧PV alw.When∧(alw.Verdict=1∨alw.Verdict=2):=⟨by decide,⟨by decide,by decide,f8a⟩,.inr rfl⟩
theorem e4s:b5z nev.Name∧PV nev.When∧(nev.Verdict=1∨nev.Verdict=2):=⟨by decide,⟨by decide,by decide,g1t⟩,.inr rfl⟩
theorem e4q (n:Int):(nm n).length=2:=rfl
theorem b9q (ks:List l6) (f:l5) (s:l8):hold ks f s alw.When=true:=by
 rw [c0s]
 simp [alw,d1x]
 try omega
theorem c6h (ks:List l6) (f:l5) (s:l8):hold ks f s nev.When=false:=by
 have h:=b9q ks f s
 rw [c0s]
 show (if (9:Int)=9 then !holdA ks f s [d9.mk 5 [] 0 0 []] else _)=false
 rw [if_pos rfl]
 show (!(hold ks f s (d9.mk 5 [] 0 0 [])&&true))=false
 rw [show hold ks f s (d9.mk 5 [] 0 0 [])=true from h];rfl
theorem d9w (hK:∀t,TO t→Ok (e2z t) fun y=>e1e y.1=some 0∧TO y.2) {tape:List Int} {at_:Int} (ht:(V.sl (tape.map (V.int .i64))).fact):e9y tape at_=some true:=by
 have h0:TO (a06.mk tape 0):=⟨vB 0,Int.ofNat_le.2 (d9x ht)⟩
 refine Ok.eq ?_
 unfold e9y
 refine Ok.bind (hK _ h0) fun y2 h2=>Ok.bind (a7c h2.2 (by omega)) fun y5 h5=>Ok.bind (c3y h5.2.2 h5.1 (by have:=h5.2.1;omega)) fun y6 h6=>?_
 have hn:y6.1.length≤6:=by have:=h5.2.1;have:=h6.2.1;omega
 have hv:=h6.1.vr hn
 have m0:0≤at_ % 2^8:=Int.emod_nonneg _ (by decide)
 have m1:0≤(at_ % 2^8) % ((y6.1.length:Int)+1):=Int.emod_nonneg _ (by omega)
 have m2:(at_ % 2^8) % ((y6.1.length:Int)+1)<(y6.1.length:Int)+1:=Int.emod_lt_of_pos _ (by omega)
 refine Ok.chk (a1z (by omega) (by omega)) (Ok.chk (b48.2 ⟨m0,by omega⟩) ?_)
 generalize (at_ % 2^8) % ((y6.1.length:Int)+1)=k at m1 m2 ⊢
 have hab:y6.1.take k.toNat++y6.1.drop k.toNat=y6.1:=List.take_append_drop _ _
 have hal:(y6.1.take k.toNat).length+(y6.1.drop k.toNat).length=y6.1.length:=by rw [←xB,hab]
 have hnm:∀r∈y6.1,r.Name.length=2:=fun r hr=>by
  obtain ⟨_,_,_,j,_,e⟩:=h6.1.r r hr
  rw [e,e4q]
 have i1:inc 0 k y6.1.length=true:=a7y.2 ⟨by omega,m1,by omega⟩
 have i2:inc k (y6.1.length:Int) y6.1.length=true:=a7y.2 ⟨m1,by omega,by omega⟩
 generalize y6.1.take k.toNat=A at hab hal ⊢
 generalize y6.1.drop k.toNat=B at hab hal ⊢
 have hvAB:VR' (A++B):=by rw [hab];exact hv
 have v1:VR' (A++[alw]):=by
  have:=c7g (a:=A) (b:=[]) (x:=alw) (by rw [wH];exact e4l hvAB) (by simp;omega) d4j (fun r hr e=>by
   have:=hnm r (by rw [←hab];simp at hr;simp [hr])
   rw [e] at this;cases this)
  rwa [wH] at this
 have v2:VR' ((A++[alw])++B):=c7g hvAB (by simp;omega) d4j (fun r hr e=>by
   have:=hnm r (by rw [←hab];exact hr)
   rw [e] at this;cases this)
 have v3:VR' ((A++[nev])++B):=c7g hvAB (by simp;omega) e4s (fun r hr e=>by
   have:=hnm r (by rw [←hab];exact hr)
   rw [e] at this;cases this)
 refine Ok.chk i1 (Ok.chk (a7p (by simp;omega)) (Ok.chk (a7p (by simp;omega)) (Ok.chk (a7p (by simp;omega)) (Ok.chk i2 (Ok.chk (a7p (by simp;omega)) (Ok.chk i1 (Ok.chk (a7p (by simp;omega)) (Ok.chk (a7p (by simp;omega)) (Ok.chk i2 (Ok.chk (a7p (by simp;omega)) (Ok.bind (c0w h6.2.2) fun y8 h8=>?_)))))))))))
 obtain ⟨f1,f2,_⟩:=h8
 simp only [wA]
 show Ok ((loop (f0v y2 y6 y8) ((A++[alw]),((A++[alw])++B),((A++[nev])++B),0)).bind _) _
 refine Ok.bind (Ok.loop (Q:=fun o=>o=.inl ()) (fun x:List l7×List l7×List l7×Int=>∃n:Nat,n≤y8.1.length∧x=((A++[alw]),((A++[alw])++B),((A++[nev])++B),(n:Int))) (fun x=>(y8.1.length - x.2.2.2).toNat) (fun x hx=>?_) _ ⟨0,by omega,rfl⟩) fun o ho=>?_
 ·obtain ⟨n,hn2,rfl⟩:=hx
  unfold f0v
  refine Ok.ite (fun c=>?_) fun c=>Ok.ret rfl
  have c:(n:Int)<y8.1.length:=of_decide_eq_true c
  have hF:=f1.f n (by omega)
  have hi:inb (n:Int) y8.1.length=true:=a18.2 ⟨by omega,c⟩
  refine Ok.bind (Ok.loop (Q:=fun o=>o=.inl ()) (fun i:Int=>0≤i∧i≤(y8.1.getD n default).Where.length) (fun i=>((y8.1.getD n default).Where.length - i).toNat) (fun i hi2=>?_) _ ⟨by omega,by omega⟩) fun o ho=>?_
  ·unfold f7o
   dsimp only
   rw [xN]
   refine Ok.chk hi (Ok.ite (fun d=>?_) fun d=>Ok.ret rfl)
   have d:=of_decide_eq_true d
   have hs:((y8.1.getD n default).Where.getD i.toNat default).Place.Path.length≤1000000:=by
    have:=(hF.w i.toNat (by omega)).2.1
    omega
   rw [b49 hi2.1 d hs v1,b49 hi2.1 d hs v2,b49 hi2.1 d hs hv,b49 hi2.1 d hs v3]
   simp only [xQ]
   obtain ⟨q1,q2,q3⟩:=c7w (fun r=>hold y2.1 (y8.1.getD n default) ((y8.1.getD n default).Where.getD i.toNat default) r.When) A B alw (b9q _ _ _)
   have q4:=c4s (fun r=>hold y2.1 (y8.1.getD n default) ((y8.1.getD n default).Where.getD i.toNat default) r.When) A B nev (c6h _ _ _)
   rw [hab] at q4
   generalize (fun r:l7=>hold y2.1 (y8.1.getD n default) ((y8.1.getD n default).Where.getD i.toNat default) r.When)=p at q1 q2 q3 q4 ⊢
   refine Ok.chk hi (Ok.chk hi (Ok.chk hi (Ok.chk hi (Ok.grp (Ok.grp (Ok.grp (Ok.ite (fun g=>?_) fun _=>Ok.chk (a1z (by have:=hF.w1;omega) (by have:=hF.w1;omega)) (Ok.ret ⟨⟨by omega,by omega⟩,by omega⟩)))))))) 
   rw [←q1,←q2,←q4] at g
   simp at g
   omega
  ·subst ho
   rw [b87]
   exact Ok.chk (a1z (by dsimp only;omega) (by dsimp only;omega)) (Ok.ret ⟨⟨n+1,by omega,rfl⟩,by dsimp only;omega⟩)
 ·subst ho
  rw [b87,h2.1,xQ]
  refine Ok.jn (P:=fun b=>b=true) (Ok.ite (fun _=>?_) fun f=>by cases f) fun b hb=>Ok.ret hb
  rw [e0l]
  exact Ok.ret rfl
theorem a2x {n:Int} (h1:-1000000000000≤n) (h2:n≤1000000000000):a0c n=true:=a8p.2 ⟨by omega,by omega⟩
theorem b8i {n b:Nat} (h:n*b≤100000000000):room n b=true:=b41.2 (by omega)
theorem b7f {n b:Nat} (h:n*b≤100000000000):a98 (n:Int) (n:Int) b=true:=by
 refine b4j.2 ⟨by omega,by omega,?_⟩
 have h2:((n*b:Nat):Int)≤100000000000:=by omega
 rw [Int.natCast_mul] at h2
 omega
theorem b3o {n m:Nat} (h:n<m):ltb n m=true:=by simp [ltb,h]
theorem c1b {n m:Nat} (h:n=m):eqn n m=true:=c1c.2 h
theorem c5w {n:Nat} (h:n≤1000000000000):a1o n=true:=a9r.2 (by omega)
theorem b7d {α:Type} {x:List α} {i:Nat} {v:α} (h:i<x.length):b1j x i v=x.set i v:=by
 unfold b1j
 rw [List.set_eq_take_append_cons_drop,if_pos h];simp
theorem a3i {α:Type} [Inhabited α] {b:List α} {k:Nat} {v:α} (hk:k<b.length) (i:Nat):(b.set k v).getD i default=if i=k then v else b.getD i default:=by
 simp only [zE,xJ]
 split
 ·rename_i h;subst h;simp [hk]
 ·rename_i h;rw [if_neg (fun e=>h e.symm)]
theorem b43 {α:Type} [Inhabited α] {b:List α} {k:Nat} (hk:k<b.length):b.getD k default∈b:=by
 rw [zE,zJ hk];exact xV hk
theorem a4t {α:Type} [Inhabited α] {b:List α} {P:α→Prop} (h:∀x∈b,P x) {k:Nat} (hk:k<b.length):P (b.getD k default):=h _ (b43 hk)
theorem c8u {α:Type} {b:List α} {P:α→Prop} (h:∀x∈b,P x) {k:Nat} {v:α} (hv:P v):∀x∈b.set k v,P x:=fun x hx=>by
 rcases List.mem_or_eq_of_mem_set hx with hx|rfl
 ·exact h x hx
 ·exact hv
def cf (l:List Bool):Nat:=l.countP (!·)
theorem d4f:∀{l:List Bool} {i:Nat},i<l.length→l.getD i default=false→cf (l.set i true)<cf l
 | [],_,h,_=>by simp at h
 | b::r,0,_,h=>by
  have:b=false:=by simpa using h
  subst this
  simp [cf,List.countP_cons]
 | b::r,i+1,h,h'=>by
  have:=d4f (l:=r) (i:=i) (by simpa using h) (by simpa using h')
  simp only [cf,List.set_cons_succ,List.countP_cons] at this ⊢
  omega
structure MW (n:Nat) (m:u6):Prop where
 n1:1≤n
 n2:n≤2000
 e:m.Edges.length=n
 a:m.Accepts.length=n
 t:∀l∈m.Edges,l.length≤100000∧∀x∈l,0≤x.To∧x.To<n
section
variable {n:Nat} {m:u6}
theorem a10 {i:Int} {n:Nat} (h0:0≤i) (h1:i<n):inb i n=true:=a18.2 ⟨h0,h1⟩
theorem MW.edge (h:MW n m) {s i:Int} (hs:0≤s) (hs':s<n) (hi:0≤i) (hi':i<((m.Edges.getD s.toNat default).length:Int)):0≤((m.Edges.getD s.toNat default).getD i.toNat default).To∧((m.Edges.getD s.toNat default).getD i.toNat default).To<n:=by
 have h1:=a4t h.t (k:=s.toNat) (by rw [h.e];omega)
 exact h1.2 _ (b43 (by omega))
theorem MW.len (h:MW n m) {s:Int} (hs:0≤s) (hs':s<n):(m.Edges.getD s.toNat default).length≤100000:=(a4t h.t (k:=s.toNat) (by rw [h.e];omega)).1
theorem d1w (h:MW n m) {c0:Nat} {a0:Bool} {s:Int} {o0 o1:List Bool} {a1:Bool} (hs:0≤s) (hs':s<n) (h1:o1.length=n) (h2:cf o1≤c0) (h3:a1=true→cf o1<c0):Ok (loop (f1r m (a0,s,o0)) (a1,0,o1)) (fun r=>r.2.length=n∧cf r.2≤c0∧(r.1=true→cf r.2<c0)):=by
 refine Ok.loop (fun x:Bool×Int×List Bool=>0≤x.2.1∧x.2.1≤100000∧x.2.2.length=n∧cf x.2.2≤c0∧(x.1=true→cf x.2.2<c0)) (fun x=>(100000 - x.2.1).toNat) (fun x hx=>?_) _ ⟨by simp,by simp,h1,h2,h3⟩
 obtain ⟨a,i,o⟩:=x
 obtain ⟨g0,g1,g2,g3,g4⟩:=hx
 dsimp only at g0 g1 g2 g3 g4
 unfold f1r
 dsimp only
 refine Ok.chk (a10 hs (by rw [h.e];exact hs')) (Ok.ite (fun c=>?_) fun _=>Ok.ret ⟨g2,g3,g4⟩)
 have c:=of_decide_eq_true c
 have hl:=h.len hs hs'
 obtain ⟨e1,e2⟩:=h.edge hs hs' g0 c
 refine Ok.chk (a10 hs (by rw [g2];exact hs')) (Ok.ite (fun d=>?_) fun _=>Ok.ret ⟨g2,g3,g4⟩)
 have d:o.getD s.toNat default=false:=by simpa using d
 refine Ok.jn (P:=fun r=>r.2.length=n∧cf r.2≤c0∧(r.1=true→cf r.2<c0)) (Ok.chk (a10 hs (by rw [h.e];exact hs')) (Ok.chk (a10 g0 c) (Ok.chk (a10 e1 (by rw [g2];exact e2)) (Ok.ite (fun _=>Ok.chk (a10 hs (by rw [g2];exact hs')) (Ok.ret ?_)) fun _=>Ok.ret ⟨g2,g3,g4⟩)))) fun r hr=>Ok.chk (a2x (by omega) (by omega)) (Ok.ret ⟨⟨by dsimp only;omega,by dsimp only;omega,hr⟩,by dsimp only;omega⟩)
 have:=d4f (l:=o) (i:=s.toNat) (by omega) d
 exact ⟨by simp [g2],by dsimp only;omega,fun _=>by dsimp only;omega⟩
theorem d1v (h:MW n m) {a0:Bool} {o0 o1:List Bool} (h1:o1.length=n):Ok (loop (f1k m) (false,0,o1)) (fun r=>r.2.length=n∧cf r.2≤cf o1∧(r.1=true→cf r.2<cf o1)):=by
 refine Ok.loop (fun x:Bool×Int×List Bool=>0≤x.2.1∧x.2.1≤n∧x.2.2.length=n∧cf x.2.2≤cf o1∧(x.1=true→cf x.2.2<cf o1)) (fun x=>(n - x.2.1).toNat) (fun x hx=>?_) _ ⟨by simp,by simp,h1,w8 _,by simp⟩
 obtain ⟨a,s,o⟩:=x
 obtain ⟨g0,g1,g2,g3,g4⟩:=hx
 dsimp only at g0 g1 g2 g3 g4
 have:=h.n2
 unfold f1k
 dsimp only
 refine Ok.ite (fun c=>?_) fun _=>Ok.ret ⟨g2,g3,g4⟩
 have c:=of_decide_eq_true c
 rw [g2] at c
 exact Ok.bind (d1w h g0 c g2 g3 g4) fun r hr=>Ok.chk (a2x (by omega) (by omega)) (Ok.ret ⟨⟨by dsimp only;omega,by dsimp only;omega,hr⟩,by dsimp only;omega⟩)
theorem d98 (h:MW n m):Ok (f04 m) (fun y=>y.length=n):=by
 have:=h.n2
 have ha:=h.a
 unfold f04
 refine Ok.chk (b8i (by simp;omega)) (Ok.bind (Ok.loop (Q:=fun y:List Bool=>y.length=n) (fun x:Bool×List Bool=>x.2.length=n) (fun x=>2*cf x.2+(if x.1 then 1 else 0)) (fun x hx=>?_) _ (by simp [ha])) fun y hy=>Ok.ret hy)
 obtain ⟨a,o⟩:=x
 dsimp only at hx
 unfold f7k
 dsimp only
 refine Ok.ite (fun c=>?_) fun _=>Ok.ret hx
 subst c
 refine Ok.bind (d1v h (a0:=false) (o0:=[]) hx) fun r hr=>Ok.ret ⟨hr.1,?_⟩
 obtain ⟨r1,r2⟩:=r
 obtain ⟨k1,k2,k3⟩:=hr
 dsimp only at k2 k3 ⊢
 cases r1 with
 | false=>simp;omega
 | true=>have:=k3 rfl;simp;omega
structure TW (n:Nat) (t:List (List Int)):Prop where
 l:t.length=n
 r:∀r∈t,r.length=256∧∀v∈r,v<(n:Int)
theorem TW.put {t:List (List Int)} (h:TW n t) {s c v:Int} (hs:0≤s) (hs':s<n) (hc:0≤c) (hc':c<256) (hv:v<n):TW n (t.set s.toNat (b1j (t.getD s.toNat default) c.toNat v)):=by
 have hr:=a4t h.r (k:=s.toNat) (by rw [h.l];omega)
 refine ⟨by simp [h.l],c8u h.r ?_⟩
 rw [b7d (by omega)]
 exact ⟨by rw [List.length_set];exact hr.1,c8u hr.2 hv⟩
theorem c5u {s:Int} {t0 t:List (List Int)} (hs:0≤s) (hs':s<n) (h:TW n t):Ok (loop (f1w (s,t0)) (0,t)) (TW n):=by
 refine Ok.loop (fun x:Int×List (List Int)=>0≤x.1∧x.1≤256∧TW n x.2) (fun x=>(256 - x.1).toNat) (fun x hx=>?_) _ ⟨by simp,by simp,h⟩
 obtain ⟨c,t⟩:=x
 obtain ⟨g0,g1,g2⟩:=hx
 dsimp only at g0 g1 g2
 unfold f1w
 dsimp only
 refine Ok.ite (fun d=>?_) fun _=>Ok.ret g2
 have d:=of_decide_eq_true d
 have hl:=g2.l
 exact Ok.chk (a10 hs (by omega)) (Ok.chk (a10 g0 (by omega)) (Ok.chk (b3o (by omega)) (Ok.chk (b3o (by omega)) (Ok.chk (a2x (by omega) (by omega)) (Ok.ret ⟨⟨by dsimp only;omega,by dsimp only;omega,g2.put hs hs' g0 d (by omega)⟩,by dsimp only;omega⟩)))))
theorem c5t (h:MW n m) {y:List Bool} (hy:y.length=n) {s i lo:Int} {t0 t1 t:List (List Int)} (hs:0≤s) (hs':s<n) (hi:0≤i) (hi':i<((m.Edges.getD s.toNat default).length:Int)) (hlo:0≤lo) (hlo':lo≤256) (ht:TW n t):Ok (loop (f1q m y (s,t0) (i,t1)) (lo,t)) (TW n):=by
 obtain ⟨e1,e2⟩:=h.edge hs hs' hi hi'
 refine Ok.loop (fun x:Int×List (List Int)=>0≤x.1∧x.1≤256∧TW n x.2) (fun x=>(256 - x.1).toNat) (fun x hx=>?_) _ ⟨hlo,hlo',ht⟩
 obtain ⟨c,t⟩:=x
 obtain ⟨g0,g1,g2⟩:=hx
 dsimp only at g0 g1 g2
 unfold f1q
 dsimp only
 refine Ok.ite (fun d=>?_) fun _=>Ok.ret g2
 have d:=of_decide_eq_true d
 have hb:=((m.Edges.getD s.toNat default).getD i.toNat default).Range.High.toNat_lt
 have hl:=g2.l
 exact Ok.chk (a10 e1 (by rw [hy];exact e2)) (Ok.ite (fun _=>Ok.chk (a10 hs (by omega)) (Ok.chk (a10 g0 (by omega)) (Ok.chk (b3o (by omega)) (Ok.chk (b3o (by omega)) (Ok.chk (a2x (by omega) (by omega)) (Ok.ret ⟨⟨by dsimp only;omega,by dsimp only;omega,g2.put hs hs' g0 (by omega) e2⟩,by dsimp only;omega⟩)))))) fun _=>Ok.ret g2)
theorem c5s (h:MW n m) {y:List Bool} (hy:y.length=n) {s:Int} {t0 t:List (List Int)} (hs:0≤s) (hs':s<n) (ht:TW n t):Ok (loop (f1j m y (s,t0)) (0,t)) (TW n):=by
 have hl:=h.len hs hs'
 have he:=h.e
 refine Ok.loop (fun x:Int×List (List Int)=>0≤x.1∧x.1≤100000∧TW n x.2) (fun x=>(100000 - x.1).toNat) (fun x hx=>?_) _ ⟨by simp,by simp,ht⟩
 obtain ⟨i,t⟩:=x
 obtain ⟨g0,g1,g2⟩:=hx
 dsimp only at g0 g1 g2
 unfold f1j
 dsimp only
 refine Ok.chk (a10 hs (by omega)) (Ok.ite (fun d=>?_) fun _=>Ok.ret g2)
 have d:=of_decide_eq_true d
 have hb:=((m.Edges.getD s.toNat default).getD i.toNat default).Range.Low.toNat_lt
 exact Ok.chk (a10 hs (by omega)) (Ok.chk (a10 g0 d) (Ok.bind (c5t h hy hs hs' g0 d (by omega) (by omega) g2) fun r hr=>Ok.chk (a2x (by omega) (by omega)) (Ok.ret ⟨⟨by dsimp only;omega,by dsimp only;omega,hr⟩,by dsimp only;omega⟩)))
theorem d04 (h:MW n m):Ok (f03 m) (TW n):=by
 have hn:=h.n2
 have he:=h.e
 have h1:=h.n1
 unfold f03
 refine Ok.bind (d98 h) fun y hy=>Ok.chk (b7f (by omega)) (Ok.bind (Ok.loop (Q:=TW n) (fun x:Int×List (List Int)=>0≤x.1∧x.1≤n∧TW n x.2) (fun x=>(n - x.1).toNat) (fun x hx=>?_) _ ⟨vB 0,Int.natCast_nonneg n,⟨by rw [List.length_replicate,he];omega,fun r hr=>?_⟩⟩) fun r hr=>Ok.ret hr)
 ·obtain ⟨s,t⟩:=x
  obtain ⟨g0,g1,g2⟩:=hx
  dsimp only at g0 g1 g2
  unfold f7j
  dsimp only
  have hl:=g2.l
  refine Ok.ite (fun d=>?_) fun _=>Ok.ret g2
  have d:=of_decide_eq_true d
  exact Ok.bind (c5u g0 (by omega) g2) fun r hr=>Ok.bind (c5s h hy g0 (by omega) hr) fun r hr=>Ok.chk (a2x (by omega) (by omega)) (Ok.ret ⟨⟨by dsimp only;omega,by dsimp only;omega,hr⟩,by dsimp only;omega⟩)
 ·have:=List.eq_of_mem_replicate hr
  subst this
  exact ⟨List.length_replicate,fun v hv=>by have:=List.eq_of_mem_replicate hv;omega⟩
end
theorem c29:∀{l r:List Int},l.Nodup→(∀x∈l,x∈r)→l.length≤r.length
 | [],r,_,_=>w6 _
 | x::l,r,h,hs=>by
  obtain ⟨h1,h2⟩:=List.nodup_cons.1 h
  have hx:x∈r:=hs x (by simp)
  have:=c29 (l:=l) (r:=r.erase x) h2 fun y hy=>(List.mem_erase_of_ne (fun e=>h1 (by rw [←e];exact hy))).2 (hs y (by simp [hy]))
  rw [List.length_erase_of_mem hx] at this
  have:=List.length_pos_of_mem hx
  simp;omega
theorem b9n {α β:Type} [DecidableEq α] {k:α} {v:β}:∀{l:List (α×β)},b5x k l=none→c5l k v l=l++[(k,v)]
 | [],_=>rfl
 | (a,b)::r,h=>by
  by_cases e:k=a
  ·simp [b5x,e] at h
  ·simp only [b5x,e,if_false] at h
   simp [c5l,e,b9n h]
theorem c3a {α β:Type} [DecidableEq α] {k:α} {v:β}:∀{l:List (α×β)},b5x k l=some v→(k,v)∈l
 | [],h=>by cases h
 | (a,b)::r,h=>by
  by_cases e:k=a
  ·subst e;simp [b5x] at h;subst h;simp
  ·simp only [b5x,e,if_false] at h
   exact z3 _ (c3a h)
section
variable {n:Nat} {m:u6} {t:List (List Int)}
theorem TW.row (h:TW n t) {s:Int} (hs:0≤s) (hs':s<n):(t.getD s.toNat default).length=256:=(a4t h.r (k:=s.toNat) (by rw [h.l];omega)).1
theorem TW.val (h:TW n t) {s c:Int} (hs:0≤s) (hs':s<n) (hc:0≤c) (hc':c<256):(t.getD s.toNat default).getD c.toNat default<n:=(a4t h.r (k:=s.toNat) (by rw [h.l];omega)).2 _ (b43 (by rw [h.row hs hs'];omega))
theorem c8d (h:TW n t) {n0 s:Int} {cl nx:List Int} {nu:List (List Int×Int)} {k0:List Int} {w:Int} (hc:cl.length=n) (hs:0≤s) (hs':s<n) (hk:k0.length=257) (hw:k0.getD 256 default=w) :
  Ok (loop (f1v t (n0,cl) (s,nx,nu)) (0,k0)) (fun k=>k.length=257∧k.getD 256 default=w):=by
 refine Ok.loop (fun x:Int×List Int=>0≤x.1∧x.1≤256∧x.2.length=257∧x.2.getD 256 default=w) (fun x=>(256 - x.1).toNat) (fun x hx=>?_) _ ⟨vB 0,by show (0:Int)≤256;omega,hk,hw⟩
 obtain ⟨c,k⟩:=x
 obtain ⟨g0,g1,g2,g3⟩:=hx
 dsimp only at g0 g1 g2 g3
 unfold f1v
 dsimp only
 refine Ok.ite (fun d=>?_) fun _=>Ok.ret ⟨g2,g3⟩
 have d:=of_decide_eq_true d
 have hl:=h.l
 have hr:=h.row hs hs'
 have hv:=h.val hs hs' g0 d
 have e1:b1j k c.toNat (-1)=k.set c.toNat (-1):=b7d (by omega)
 rw [e1]
 have h1:(k.set c.toNat (-1)).length=257:=by rw [List.length_set];exact g2
 have e2:∀v,b1j (k.set c.toNat (-1)) c.toNat v=(k.set c.toNat (-1)).set c.toNat v:=fun v=>b7d (by omega)
 rw [e2]
 have h2:(k.set c.toNat (-1)).getD 256 default=w:=by rw [a3i (by omega),if_neg (by omega)];exact g3
 refine Ok.jn (P:=fun k=>k.length=257∧k.getD 256 default=w) (Ok.chk (a10 g0 (by omega)) (Ok.chk (b3o (by omega)) (Ok.chk (a10 hs (by omega)) (Ok.chk (c1b hr) (Ok.chk (a10 g0 (by omega)) (Ok.chk (b3o (by omega)) (Ok.ite (fun f=>?_) fun _=>Ok.ret ⟨h1,h2⟩))))))) fun r hr=>Ok.chk (a2x (by omega) (by omega)) (Ok.ret ⟨⟨by dsimp only;omega,by dsimp only;omega,hr⟩,by dsimp only;omega⟩)
 have f:=of_decide_eq_true f
 exact Ok.chk (a10 hs (by omega)) (Ok.chk (c1b hr) (Ok.chk (a10 g0 (by omega)) (Ok.chk (b3o (by omega)) (Ok.chk (a10 f (by omega)) (Ok.chk (a10 g0 (by omega)) (Ok.chk (b3o (by omega)) (Ok.ret ⟨by rw [List.length_set];exact h1,by rw [a3i (by omega),if_neg (by omega)];exact h2⟩)))))))
structure CR (n:Nat) (cl:List Int) (s:Nat) (nx:List Int) (nu:List (List Int×Int)):Prop where
 z:s≤n
 l:nx.length=n
 c:nu.length≤s
 a:∀j,j<s→∃q∈nu,q.1.getD 256 default=cl.getD j default
 b:∀e∈nu,0≤e.2∧e.2<nu.length
 w:∀v,v<nu.length→∃j,j<s∧nx.getD j default=(v:Int)
 d:∀j,j<s→0≤nx.getD j default∧nx.getD j default<nu.length
theorem CR.new {cl nx:List Int} {nu:List (List Int×Int)} {s:Nat} (h:CR n cl s nx nu) (hs:s<n) {q:List Int} (hq:q.getD 256 default=cl.getD s default):CR n cl (s+1) (nx.set s (nu.length:Int)) (nu++[(q,(nu.length:Int))]):=by
 have hl:=h.l
 refine ⟨hs,by rw [List.length_set];exact hl,by simp;exact h.c,fun j hj=>?_,fun e he=>?_,fun v hv=>?_,fun j hj=>?_⟩
 ·by_cases e:j=s
  ·subst e;exact ⟨(q,(nu.length:Int)),by simp,hq⟩
  ·obtain ⟨p,hp,e2⟩:=h.a j (by omega)
   exact ⟨p,by simp [hp],e2⟩
 ·rcases wC.1 he with he|he
  ·have:=h.b e he;simp;omega
  ·simp at he;subst he;simp;omega
 ·simp at hv
  by_cases e:v=nu.length
  ·subst e;exact ⟨s,by omega,by rw [a3i (by omega),if_pos rfl]⟩
  ·obtain ⟨j,h1,h2⟩:=h.w v (by omega)
   exact ⟨j,by omega,by rw [a3i (by omega),if_neg (by omega)];exact h2⟩
 ·rw [a3i (by omega)]
  split
  ·rw [xB];simp only [xU,wD];omega
  ·have:=h.d j (by omega);rw [xB];simp only [xU,wD];omega
theorem CR.old {cl nx:List Int} {nu:List (List Int×Int)} {s:Nat} (h:CR n cl s nx nu) (hs:s<n) {q:List Int} {v:Int} (hq:q.getD 256 default=cl.getD s default) (hv:(q,v)∈nu):CR n cl (s+1) (nx.set s v) nu:=by
 have hl:=h.l
 refine ⟨hs,by rw [List.length_set];exact hl,by have:=h.c;omega,fun j hj=>?_,h.b,fun u hu=>?_,fun j hj=>?_⟩
 ·by_cases e:j=s
  ·subst e;exact ⟨_,hv,hq⟩
  ·exact h.a j (by omega)
 ·obtain ⟨j,h1,h2⟩:=h.w u hu
  exact ⟨j,by omega,by rw [a3i (by omega),if_neg (by omega)];exact h2⟩
 ·rw [a3i (by omega)]
  split
  ·exact h.b _ hv
  ·exact h.d j (by omega)
theorem c8c (h:TW n t) (hn:n≤2000) {n0:Int} {cl:List Int} (hc:cl.length=n):Ok (loop (f1i t (n0,cl)) (0,List.replicate ((t.length:Int)).toNat 0,[])) (fun r=>CR n cl n r.1 r.2):=by
 have hl:=h.l
 refine Ok.loop (fun x:Int×List Int×List (List Int×Int)=>0≤x.1∧x.1≤n∧CR n cl x.1.toNat x.2.1 x.2.2) (fun x=>(n - x.1).toNat) (fun x hx=>?_) _ ⟨vB 0,Int.natCast_nonneg n,⟨w6 _,by rw [List.length_replicate];omega,w8 0,fun j hj=>absurd hj (by simp),fun e he=>absurd he (by simp),fun v hv=>absurd hv (by simp),fun j hj=>absurd hj (by simp)⟩⟩
 obtain ⟨s,nx,nu⟩:=x
 obtain ⟨g0,g1,g2⟩:=hx
 dsimp only at g0 g1 g2
 unfold f1i
 dsimp only
 refine Ok.ite (fun d=>?_) fun d=>Ok.ret (by
  have d:=of_decide_eq_false d
  have e:s.toNat=n:=by omega
  rw [e] at g2;exact g2)
 have d:=of_decide_eq_true d
 have d':s<n:=by omega
 have hx:=g2.l
 have hnu:=g2.c
 have e1:b1j (List.replicate 257 (0:Int)) 256 (cl.getD s.toNat default)=(List.replicate 257 (0:Int)).set 256 (cl.getD s.toNat default):=b7d (by rw [List.length_replicate];omega)
 rw [e1]
 refine Ok.chk (a10 g0 (by omega)) (Ok.chk (b3o (by rw [List.length_replicate];omega)) (Ok.bind (c8d h hc g0 d' (w:=cl.getD s.toNat default) (by rw [List.length_set,List.length_replicate]) (by rw [a3i (by rw [List.length_replicate];omega),if_pos rfl])) fun k hk=>?_))
 obtain ⟨k1,k2⟩:=hk
 have e3:k.take 257=k:=zP (by omega)
 rw [e3]
 refine Ok.chk (b7r.2 (by omega)) (Ok.chk (c1b k1) (Ok.jn (P:=fun r:Int×List (List Int×Int)=>CR n cl (s.toNat+1) (nx.set s.toNat r.1) r.2) (Ok.ite (fun f=>?_) fun f=>?_) fun r hr=>Ok.chk (a10 g0 (by omega)) (Ok.chk (a2x (by omega) (by omega)) (Ok.ret ⟨⟨by dsimp only;omega,by dsimp only;omega,by
  dsimp only
  rw [show (s+1).toNat=s.toNat+1 by omega];exact hr⟩,by dsimp only;omega⟩))))
 ·have f:b5x k nu=none:=by cases hg:b5x k nu with
   | none=>rfl
   | some v=>rw [hg] at f;cases f
  refine Ok.chk (c5w (by omega)) (Ok.chk (b7r.2 (by omega)) (Ok.chk (c1b k1) (Ok.ret ?_)))
  dsimp only
  rw [b9n f]
  exact g2.new (by omega) k2
 ·cases hg:b5x k nu with
  | none=>rw [hg] at f;cases f
  | some v=>exact Ok.ret (g2.old (by omega) k2 (c3a hg))
def DV (n k:Nat) (cl:List Int):Prop:=∃ws:List Nat,ws.length=k∧(∀j∈ws,j<n)∧(ws.map fun j=>cl.getD j default).Nodup
theorem CR.le {cl nx:List Int} {nu:List (List Int×Int)} {k:Nat} (h:CR n cl n nx nu) (hd:DV n k cl):k≤nu.length:=by
 obtain ⟨ws,h1,h2,h3⟩:=hd
 have:=c29 (r:=nu.map fun e=>e.1.getD 256 default) h3 fun x hx=>by
  obtain ⟨j,hj,rfl⟩:=wZ.1 hx
  obtain ⟨q,hq,e⟩:=h.a j (h2 j hj)
  exact wZ.2 ⟨q,hq,e⟩
 simp at this;omega
theorem wit {f:Nat→Int}:∀(L:Nat),(∀v,v<L→∃j,j<n∧f j=(v:Int))→∃ws:List Nat,ws.length=L∧(∀j∈ws,j<n)∧ws.map f=(List.range L).map Int.ofNat
 | 0,_=>⟨[],rfl,by simp,rfl⟩
 | L+1,h=>by
  obtain ⟨ws,h1,h2,h3⟩:=wit L fun v hv=>h v (by omega)
  obtain ⟨j,hj,e⟩:=h L (by omega)
  refine ⟨ws++[j],by simp [h1],fun i hi=>?_,by rw [List.range_succ,List.map_append,List.map_append,h3];simp [e]⟩
  rcases wC.1 hi with hi|hi
  ·exact h2 i hi
  ·simp at hi;subst hi;exact hj
theorem CR.dv {cl nx:List Int} {nu:List (List Int×Int)} (h:CR n cl n nx nu):DV n nu.length nx:=by
 obtain ⟨ws,h1,h2,h3⟩:=wit (n:=n) (f:=fun j=>nx.getD j default) nu.length h.w
 refine ⟨ws,h1,h2,?_⟩
 rw [h3]
 exact List.pairwise_map.2 (List.nodup_range.imp fun hne e=>hne (Int.ofNat.inj e))
theorem c8b (h:TW n t) (hn:n≤2000) {cl:List Int} (hc:cl.length=n):Ok (loop (f1c t) (0,cl)) (fun c=>c.length=n∧∀v∈c,0≤v∧v<n):=by
 have hl:=h.l
 refine Ok.loop (fun x:Int×List Int=>∃k:Nat,x.1=k∧k≤n∧DV n k x.2∧x.2.length=n) (fun x=>(n - x.1).toNat) (fun x hx=>?_) _ ⟨0,rfl,w6 _,⟨[],rfl,by simp,by simp⟩,hc⟩
 obtain ⟨k',cl⟩:=x
 obtain ⟨k,e,g1,g2,g3⟩:=hx
 dsimp only at e g2 g3
 subst e
 unfold f1c
 dsimp only
 refine Ok.chk (b7f (by omega)) (Ok.bind (c8c h hn g3) fun r hr=>Ok.chk (c5w (by have:=hr.c;omega)) ?_)
 obtain ⟨nx,nu⟩:=r
 dsimp only at hr ⊢
 have:=hr.le g2
 have:=hr.c
 refine Ok.ite (fun _=>Ok.ret ⟨hr.l,fun v hv=>?_⟩) fun f=>?_
 ·obtain ⟨j,hj,rfl⟩:=List.getElem_of_mem hv
  have hj':j<n:=by rw [←hr.l];exact hj
  have:=hr.d j hj'
  rw [zE,zJ hj,xP] at this
  omega
 ·have f:=of_decide_eq_false f
  exact Ok.chk (c5w (by omega)) (Ok.ret ⟨⟨nu.length,rfl,by omega,hr.dv,hr.l⟩,by dsimp only;omega⟩)
theorem c4v (hm:MW n m) (h:TW n t):Ok (f07 m t) (fun c=>c.length=n∧∀v∈c,0≤v∧v<n):=by
 have hl:=h.l
 have hn:=hm.n2
 have ha:=hm.a
 unfold f07
 refine Ok.chk (b7f (by omega)) (Ok.bind (Ok.loop (Q:=fun c:List Int=>c.length=n) (fun x:Int×List Int=>0≤x.1∧x.1≤n∧x.2.length=n) (fun x=>(n - x.1).toNat) (fun x hx=>?_) _ ⟨vB 0,Int.natCast_nonneg n,by rw [List.length_replicate];omega⟩) fun c hc=>Ok.bind (c8b h hn hc) fun r hr=>Ok.ret hr)
 obtain ⟨s,cl⟩:=x
 obtain ⟨g0,g1,g2⟩:=hx
 dsimp only at g0 g1 g2
 unfold f7z
 dsimp only
 refine Ok.ite (fun d=>?_) fun _=>Ok.ret g2
 have d:=of_decide_eq_true d
 exact Ok.jn (P:=fun c:List Int=>c.length=n) (Ok.chk (a10 g0 (by omega)) (Ok.ite (fun _=>Ok.chk (a10 g0 (by omega)) (Ok.ret (by rw [List.length_set];exact g2))) fun _=>Ok.ret g2)) fun r hr=>Ok.chk (a2x (by omega) (by omega)) (Ok.ret ⟨⟨by dsimp only;omega,by dsimp only;omega,hr⟩,by dsimp only;omega⟩)
end
def cp (l:List Int):Nat:=l.countP fun v=>decide (0≤v)
theorem f5w (l:List Int):cp l≤l.length:=List.countP_le_length
theorem c88:∀{l:List Int} {i:Nat} {v:Int},i<l.length→l.getD i default<0→0≤v→cp (l.set i v)=cp l+1
 | [],_,_,h,_,_=>by simp at h
 | b::r,0,v,_,h,hv=>by
  have h:b<0:=by simpa using h
  simp only [cp,List.set_cons_zero,List.countP_cons]
  have e1:decide (0≤b)=false:=by simp;omega
  have e2:decide (0≤v)=true:=by simp [hv]
  simp [e1,e2]
 | b::r,i+1,v,h,h',hv=>by
  have:=c88 (l:=r) (i:=i) (v:=v) (by simpa using h) (by simpa using h') hv
  simp only [cp,List.set_cons_succ,List.countP_cons] at this ⊢
  omega
structure SL (n:Nat) (l nu:List Int):Prop where
 z:nu.length=n
 v:∀x∈l,0≤x∧x<n
 c:cp nu=l.length
theorem SL.le {n:Nat} {l nu:List Int} (h:SL n l nu):l.length≤n:=by rw [←h.c,←h.z];exact f5w nu
section
variable {n:Nat} {m:u6} {t:List (List Int)} {cl:List Int}
theorem c5y (h:TW n t) (hn:n≤2000) (hc:cl.length=n) (hv:∀v∈cl,0≤v∧v<n) {i:Int} {oe:List (List a0k)} {oa:List Bool} {l0 nu0:List Int} (hi:0≤l0.getD i.toNat default∧l0.getD i.toNat default<n) {nu1:List Int} (h0:SL n l0 nu0) :
  Ok (loop (f1h t cl (i,oe,oa,l0,nu1)) (0,[],l0,nu0)) (fun r=>SL n r.2.1 r.2.2):=by
 obtain ⟨i0,i1⟩:=hi
 have hl:=h.l
 have hr:=h.row i0 i1
 refine Ok.loop (fun x:Int×List a0k×List Int×List Int=>0≤x.1∧x.1≤256∧(x.2.1.length:Int)≤x.1∧SL n x.2.2.1 x.2.2.2) (fun x=>(256 - x.1).toNat) (fun x hx=>?_) _ ⟨vB 0,by show (0:Int)≤256;omega,vB 0,h0⟩
 obtain ⟨c,l,ls,nu⟩:=x
 obtain ⟨g0,g1,g2,g3⟩:=hx
 dsimp only at g0 g1 g2 g3
 unfold f1h
 dsimp only
 refine Ok.ite (fun d=>?_) fun _=>Ok.ret g3
 have d:=of_decide_eq_true d
 have hw:=h.val i0 i1 g0 d
 have hnu:=g3.z
 have hls:=g3.le
 refine Ok.jn (P:=fun r:List a0k×List Int×List Int=>(r.1.length:Int)≤c+1∧SL n r.2.1 r.2.2) (Ok.chk (a10 i0 (by omega)) (Ok.chk (c1b hr) (Ok.chk (a10 g0 (by omega)) (Ok.chk (b3o (by omega)) (Ok.ite (fun _=>Ok.ret ⟨by dsimp only;omega,g3⟩) fun f=>?_))))) fun r hr=>Ok.chk (a2x (by omega) (by omega)) (Ok.ret ⟨⟨by dsimp only;omega,by dsimp only;omega,hr.1,hr.2⟩,by dsimp only;omega⟩)
 have f:=of_decide_eq_false f
 have f:0≤(t.getD (l0.getD i.toNat default).toNat default).getD c.toNat default:=by omega
 generalize hx:(t.getD (l0.getD i.toNat default).toNat default).getD c.toNat default=x at f hw ⊢
 obtain ⟨k0,k1⟩:=a4t hv (k:=x.toNat) (by omega)
 generalize hk:cl.getD x.toNat default=k at k0 k1 ⊢
 refine Ok.chk (a10 i0 (by omega)) (Ok.chk (c1b hr) (Ok.chk (a10 g0 (by omega)) (Ok.chk (b3o (by omega)) (Ok.chk (a10 f (by omega)) (Ok.jn (P:=fun r:List Int×List Int=>SL n r.1 r.2) (Ok.chk (a10 k0 (by omega)) (Ok.ite (fun e=>?_) fun _=>Ok.ret g3)) fun j hj=>?_)))))
 ·have e:=of_decide_eq_true e
  refine Ok.chk (a10 k0 (by omega)) (Ok.chk (a10 i0 (by omega)) (Ok.chk (c1b hr) (Ok.chk (a10 g0 (by omega)) (Ok.chk (b3o (by omega)) (Ok.chk (b8i (by simp only [xU,wD];omega)) (Ok.ret ⟨by rw [List.length_set];exact hnu,fun y hy=>?_,?_⟩))))))
  ·rcases wC.1 hy with hy|hy
   ·exact g3.v y hy
   ·cases z9.1 hy;exact ⟨f,hw⟩
  ·dsimp only
   rw [c88 (by omega) e (by omega),g3.c];simp
 ·have hj1:=hj.z
  refine Ok.jn (P:=fun b:Bool=>b=true→0<l.length) (Ok.ite (fun e=>?_) fun _=>Ok.ret fun e=>by cases e) fun b hb=>Ok.ite (fun e=>?_) fun _=>?_
  ·have e:=of_decide_eq_true e
   refine Ok.chk (a2x (by omega) (by omega)) (Ok.chk (a10 (by omega) (by omega)) (Ok.chk (a10 k0 (by omega)) (Ok.ite (fun _=>Ok.chk (a2x (by omega) (by omega)) (Ok.chk (a10 (by omega) (by omega)) (Ok.chk (a2x (by omega) (by omega)) (Ok.ret fun _=>by omega)))) fun _=>Ok.ret fun e=>by cases e)))
  ·have:=hb e
   exact Ok.chk (a2x (by omega) (by omega)) (Ok.chk (a10 (by omega) (by omega)) (Ok.ret ⟨by dsimp only;rw [List.length_set];omega,hj⟩))
  ·exact Ok.chk (a10 k0 (by omega)) (Ok.chk (b8i (by simp only [xU,wD];omega)) (Ok.ret ⟨by dsimp only;simp only [xB,xU,wD];omega,hj⟩))
theorem d09 (hm:MW n m):Ok (e3e m) (fun _=>True):=by
 have hn:=hm.n2
 have hn1:=hm.n1
 have ha:=hm.a
 unfold e3e
 refine Ok.bind (d04 hm) fun t ht=>Ok.bind (c4v hm ht) fun cl hc=>?_
 have hl:=ht.l
 obtain ⟨hc,hv⟩:=hc
 refine Ok.chk (b7f (by omega)) (Ok.bind (Ok.loop (Q:=fun y:List Int=>y.length=n∧∀j,j<n→y.getD j default=-1) (fun x:Int×List Int=>0≤x.1∧x.1≤n∧x.2.length=n∧∀j:Nat,j<x.1→x.2.getD j default=-1) (fun x=>(n - x.1).toNat) (fun x hx=>?_) _ ⟨vB 0,Int.natCast_nonneg n,by rw [List.length_replicate];omega,fun j hj=>absurd hj (by dsimp only;omega)⟩) fun y hy=>?_)
 ·obtain ⟨s,y⟩:=x
  obtain ⟨g0,g1,g2,g3⟩:=hx
  dsimp only at g0 g1 g2 g3
  unfold f7y
  dsimp only
  refine Ok.ite (fun d=>?_) fun d=>Ok.ret ⟨g2,fun j hj=>?_⟩
  ·have d:=of_decide_eq_true d
   refine Ok.chk (a10 g0 d) (Ok.chk (a2x (by omega) (by omega)) (Ok.ret ⟨⟨by dsimp only;omega,by dsimp only;omega,by dsimp only;rw [List.length_set];exact g2,fun j hj=>?_⟩,by dsimp only;omega⟩))
   dsimp only at hj ⊢
   rw [a3i (by omega)]
   split
   ·rfl
   ·exact g3 j (by omega)
  ·have d:=of_decide_eq_false d
   exact g3 j (by omega)
 ·obtain ⟨y1,y2⟩:=hy
  obtain ⟨c0,c1⟩:=a4t hv (k:=0) (by omega)
  have hcp:cp y=0:=by
   rw [cp,List.countP_eq_zero]
   intro v hv2
   obtain ⟨j,hj,rfl⟩:=List.getElem_of_mem hv2
   have:=y2 j (by omega)
   rw [zE,zJ hj,xP] at this
   rw [this];simp
  have hS:SL n [0] (y.set (cl.getD 0 default).toNat 0):=⟨by rw [List.length_set];exact y1,fun x hx=>by cases z9.1 hx;omega,by
   rw [c88 (by omega) (by rw [y2 _ (by omega)];omega) (by omega),hcp];rfl⟩
  refine Ok.chk (a10 (by omega) (by omega)) (Ok.chk (a10 c0 (by omega)) (Ok.bind (Ok.loop (Q:=fun _=>True) (fun x:Int×List (List a0k)×List Bool×List Int×List Int=>0≤x.1∧x.1≤n∧(x.2.1.length:Int)=x.1∧(x.2.2.1.length:Int)=x.1∧SL n x.2.2.2.1 x.2.2.2.2) (fun x=>(n - x.1).toNat) (fun x hx=>?_) _ ⟨vB 0,Int.natCast_nonneg n,rfl,rfl,hS⟩) fun r _=>Ok.ret trivial))
  obtain ⟨i,oe,oa,ls,nu⟩:=x
  obtain ⟨g0,g1,g2,g3,g4⟩:=hx
  dsimp only at g0 g1 g2 g3 g4
  unfold f7i
  dsimp only
  refine Ok.ite (fun d=>?_) fun _=>Ok.ret trivial
  have d:=of_decide_eq_true d
  have hls:=g4.le
  obtain ⟨i0,i1⟩:=a4t g4.v (k:=i.toNat) (by omega)
  refine Ok.chk (a10 g0 d) (Ok.bind (c5y ht hn hc hv ⟨i0,i1⟩ g4) fun r hr=>Ok.chk (b8i (by simp only [xU,wD];omega)) (Ok.chk (a10 i0 (by omega)) (Ok.chk (b8i (by simp only [xU,wD];omega)) (Ok.chk (a2x (by omega) (by omega)) (Ok.ret ⟨⟨by dsimp only;omega,by dsimp only;omega,by dsimp only;simp only [xB,xU,wD];omega,by dsimp only;simp only [xB,xU,wD];omega,hr⟩,by dsimp only;omega⟩)))))
end
set_option maxRecDepth 100000
def sN (l:List o9):o7:=⟨1,l,[],0,0⟩
def bN (c:UInt8):o7:=sN [⟨c,c⟩]
def tN (l:List o9) (a b:Int):o7:=⟨4,[],[sN l],a,b⟩
def qN (l:List o7):o7:=⟨2,[],l,0,0⟩
def d3w:List o7:=[qN [bN 116,bN 107,tN [⟨48,57⟩] 2 4],qN [bN 107,bN 45,tN [⟨48,57⟩,⟨97,102⟩] 3 6],tN [⟨48,57⟩] 4 4,tN [⟨65,90⟩,⟨97,122⟩] 2 5,⟨3,[],[bN 107,qN [bN 107,bN 101],tN [⟨48,57⟩] 2 2],0,0⟩,qN [bN 97,tN [⟨48,57⟩,⟨97,102⟩] 0 3,bN 98]]
theorem c61:f0s=some d3w:=rfl
def mwB (m:u6):Bool:=decide (1≤m.Edges.length)&&(decide (m.Edges.length≤2000)&&(decide (m.Accepts.length=m.Edges.length)&&m.Edges.all fun l=>decide (l.length≤100000)&&l.all fun x=>decide (0≤x.To)&&decide (x.To<m.Edges.length)))
theorem e4t {m:u6} (h:mwB m=true):MW m.Edges.length m:=by
 simp only [mwB,xY,xG,xX] at h
 exact ⟨h.1,h.2.1,rfl,h.2.2.1,fun l hl=>⟨(h.2.2.2 l hl).1,fun x hx=>(h.2.2.2 l hl).2 x hx⟩⟩
def pC (n:o7):Bool:=(match a3s n with
 | some 0=>match b3l n with
  | some y=>!decide (600<y)&&(match a6g (o8.mk [] []) n with
   | some y=>match a6n (o8.mk y.2.qD y.2.jD) y.1 with
    | some z=>z.2&&mwB z.1
    | none=>false
   | none=>false)
  | none=>false
 | _=>false)&&((a2p n).elim false fun y=>!decide (y<1))&&(a3t n).elim false fun y=>!decide (256<y)
theorem e4p:d3w.all pC=true:=by kernel_rfl
theorem e4o {p:o7} (hp:p∈d3w):(∃m,e2n p=some (m,0))∧(∃y,e2l p=some y∧1≤y)∧∃y,e2k p=some y∧y≤256:=by
 have h:=xX.1 e4p p hp
 simp only [pC,xY] at h
 obtain ⟨⟨h1,h2⟩,h3⟩:=h
 refine ⟨?_,?_,?_⟩
 ·split at h1
  ·rename_i e1
   split at h1
   ·rename_i y8 e2
    simp only [xY,xO] at h1
    obtain ⟨h1,h4⟩:=h1
    split at h4
    ·rename_i y10 e3
     split at h4
     ·rename_i y12 e4
      simp only [xY] at h4
      obtain ⟨y14,e5,_⟩:=d09 (e4t h4.2)
      refine ⟨y14,?_⟩
      unfold e2n
      rw [a4m _ e1,xQ]
      show (bif (!decide ((0:Int)=0)) then _ else _)=_
      rw [show (!decide ((0:Int)=0))=false from rfl,vC,b5t _ e2,xQ,h1,vC,a8g _ e3,xQ,b2g _ e4,xQ,h4.1]
      show (e3e y12.1).bind _=_
      rw [e5];rfl
     ·cases h4
    ·cases h4
   ·cases h1
  ·cases h1
 ·cases hs:a2p p with
  | none=>rw [hs] at h2;cases h2
  | some y =>
   rw [hs] at h2
   exact ⟨y,a9p _ hs,by simp only [Option.elim,xO,zK] at h2;omega⟩
 ·cases hs:a3t p with
  | none=>rw [hs] at h3;cases h3
  | some y =>
   rw [hs] at h3
   exact ⟨y,b1b _ hs,by simp only [Option.elim,xO,zK] at h3;omega⟩
def nmK (j:Nat):Str:=([107,105,110,100]:Str)++[u8 (48+((u8 (j:Int)).toNat:Int))]
def nmB:Bool:=(List.range 3).all fun j=>(a6f (nmK j)).elim false id&&(List.range 3).all fun i=>decide (nmK j=nmK i→j=i)
theorem d43:nmB=true:=by kernel_rfl
theorem d6i {j:Nat} (h:j<3):e1f (nmK j)=some true:=by
 have h:=xX.1 d43 j (List.mem_range.2 h)
 simp only [xY] at h
 cases hs:a6f (nmK j) with
 | none=>rw [hs] at h;cases h.1
 | some y =>
  rw [hs] at h
  have:y=true:=h.1
  subst this
  exact b5s _ hs
theorem d0w {i j:Nat} (hi:i<3) (hj:j<3) (e:nmK j=nmK i):j=i:=by
 have h:=xX.1 d43 j (List.mem_range.2 hj)
 simp only [xY] at h
 have h:=xX.1 h.2 i (List.mem_range.2 hi)
 exact of_decide_eq_true h e
structure KO (j:Nat) (x:l6):Prop where
 n:x.Name=nmK j
 p:x.Pattern∈d3w
 c:0≤x.Check∧x.Check≤4
 e:0≤x.Entropy∧x.Entropy≤1000000
 m:0≤x.Near∧x.Near≤64
 w:(x.Words=[]∧x.Near=0)∨x.Words=[[107,101,121]]∨x.Words=[[97],[112,97,115,115]]
theorem KO.words {j:Nat} {x:l6} (h:KO j x):x.Words.length≤2∧∀w∈x.Words,1≤w.length∧w.length≤64:=by
 rcases h.w with ⟨e,_⟩|e|e<;>rw [e]<;>simp
theorem d0b {j:Nat} {x:l6} (h:KO j x):e2y x=some 0:=by
 obtain ⟨_,⟨a,ha,ha1⟩,b,hb,hb1⟩:=e4o h.p
 obtain ⟨w1,w2⟩:=h.words
 have c:=h.c;have e:=h.e;have m:=h.m
 refine Ok.eq ?_
 unfold e2y
 refine Ok.jn (P:=fun o=>o=.nx ()) ?_ fun o ho=>?_
 ·rw [ha,xQ,hb,xQ]
  rw [show decide (a<1)=false from x4 (by omega),vC,show decide (256<b)=false from x4 (by omega),vC]
  have e3:e9p x.Check=some true:=by
   unfold e9p grp
   rw [show decide (0≤x.Check)=true from wK c.1,show decide (x.Check≤4)=true from wK c.2];rfl
  rw [e3,xQ]
  unfold grp
  have e4:(decide ((x.Words.length:Int)=0)&&(!decide (x.Near=0)))=false:=by
   rcases h.w with ⟨_,e⟩|e|e
   ·rw [e];simp
   ·rw [e];simp
   ·rw [e];simp
  rw [show decide (x.Entropy<0)=false from x4 (by omega),show decide (1073741824<x.Entropy)=false from x4 (by omega),show decide (16<(x.Words.length:Int))=false from x4 (by omega),show decide (x.Near<0)=false from x4 (by omega),show decide (64<x.Near)=false from x4 (by omega),e4]
  exact Ok.ret rfl
 ·subst ho
  rw [d3n]
  refine Ok.bind (Ok.loop (Q:=fun o=>o=.inl ()) (fun i:Int=>0≤i∧i≤2) (fun i=>(2 - i).toNat) (fun i hi=>?_) _ ⟨by omega,by omega⟩) fun o ho=>by subst ho;exact Ok.ret rfl
  obtain ⟨g0,g1⟩:=hi
  unfold f7q
  refine Ok.ite (fun d=>?_) fun _=>Ok.ret rfl
  have d:=of_decide_eq_true d
  obtain ⟨l1,l2⟩:=a4t w2 (k:=i.toNat) (by omega)
  refine Ok.chk (a10 g0 d) (Ok.ite (fun f=>?_) fun _=>Ok.chk (a10 g0 d) (Ok.ite (fun f=>?_) fun _=>Ok.chk (a2x (by omega) (by omega)) (Ok.ret ⟨⟨by omega,by omega⟩,by omega⟩)))
  ·have f:=of_decide_eq_true f;omega
  ·have f:=of_decide_eq_true f;omega
theorem d9b {j:Nat} {x:l6} (h:KO j x) (hj:j<3):e9o x=some 0:=by
 obtain ⟨⟨m,hm⟩,_⟩:=e4o h.p
 unfold e9o
 rw [h.n,d6i hj,xQ]
 show (e2n x.Pattern).bind _=_
 rw [hm,xQ]
 show (e2y x).bind _=_
 rw [d0b h];rfl
theorem c79 {l:List l6} (h1:1≤l.length) (h3:l.length≤3) (h:∀j,j<l.length→KO j (l.getD j default)):e1e l=some 0:=by
 refine Ok.eq ?_
 unfold e1e
 rw [show (decide ((l.length:Int)=0)||decide (32<(l.length:Int)))=false by
  rw [show decide ((l.length:Int)=0)=false from x4 (by omega),show decide (32<(l.length:Int))=false from x4 (by omega)];rfl]
 refine Ok.grp ?_
 rw [vC]
 refine Ok.bind (Ok.loop (Q:=fun o=>o=.inl ()) (fun i:Int=>0≤i∧i≤3) (fun i=>(3 - i).toNat) (fun i hi=>?_) _ ⟨by omega,by omega⟩) fun o ho=>?_
 ·obtain ⟨g0,g1⟩:=hi
  unfold f7v
  refine Ok.ite (fun d=>?_) fun _=>Ok.ret rfl
  have d:=of_decide_eq_true d
  refine Ok.chk (a10 g0 d) ?_
  rw [d9b (h i.toNat (by omega)) (by omega),xQ]
  exact Ok.chk (a2x (by omega) (by omega)) (Ok.ret ⟨⟨by omega,by omega⟩,by omega⟩)
 ·subst ho
  rw [b87]
  refine Ok.bind (Ok.loop (Q:=fun o=>o=.inl ()) (fun i:Int=>0≤i∧i≤3) (fun i=>(3 - i).toNat) (fun i hi=>?_) _ ⟨by omega,by omega⟩) fun o ho=>by subst ho;exact Ok.ret rfl
  obtain ⟨g0,g1⟩:=hi
  unfold f7g
  refine Ok.ite (fun d=>?_) fun _=>Ok.ret rfl
  have d:=of_decide_eq_true d
  refine Ok.bind (Ok.loop (Q:=fun o=>o=.inl ()) (fun k:Int=>0≤k∧k≤i) (fun k=>(i - k).toNat) (fun k hk=>?_) _ ⟨by omega,g0⟩) fun o ho=>by subst ho;exact Ok.chk (a2x (by omega) (by omega)) (Ok.ret ⟨⟨by omega,by omega⟩,by omega⟩)
  obtain ⟨k0,k1⟩:=hk
  unfold f7p
  refine Ok.ite (fun f=>?_) fun _=>Ok.ret rfl
  have f:=of_decide_eq_true f
  refine Ok.chk (a10 g0 d) (Ok.chk (a10 k0 (by omega)) (Ok.ite (fun e=>?_) fun _=>Ok.chk (a2x (by omega) (by omega)) (Ok.ret ⟨⟨by omega,by omega⟩,by omega⟩)))
  have e:=of_decide_eq_true e
  rw [(h i.toNat (by omega)).n,(h k.toNat (by omega)).n] at e
  have:=d0w (by omega) (by omega) e
  omega
theorem c7r {α:Type} [Inhabited α] {l:List α} {x:α} {j:Nat} (hj:j<(l++[x]).length):(l++[x]).getD j default=if j=l.length then x else l.getD j default:=by
 simp only [zE]
 split
 ·rename_i e;subst e;simp
 ·rename_i e
  rw [zH (by simp at hj;omega)]
theorem c4m {t:a06} (ht:TO t):Ok (e2z t) fun y=>e1e y.1=some 0∧TO y.2:=by
 unfold e2z
 rw [c61,xQ]
 refine Ok.bind (b3d ht (by omega) (by omega) (by omega)) fun n hn=>?_
 obtain ⟨n1,n3,n4⟩:=hn
 refine Ok.bind (Ok.loop (Q:=fun r:List l6×a06=>(1≤r.1.length∧r.1.length≤3∧∀j,j<r.1.length→KO j (r.1.getD j default))∧TO r.2) (fun x:Int×List l6×a06=>0≤x.1∧x.1+x.2.1.length=n.1∧(∀j,j<x.2.1.length→KO j (x.2.1.getD j default))∧TO x.2.2) (fun x=>x.1.toNat) (fun x hx=>?_) _ ⟨by dsimp only;omega,by simp,fun j hj=>absurd hj (by simp),n4⟩) fun r hr=>Ok.ret ⟨c79 hr.1.1 hr.1.2.1 hr.1.2.2,hr.2⟩
 obtain ⟨k,l,t⟩:=x
 obtain ⟨h1,h2,h0,h3⟩:=hx
 dsimp only at h1 h2 h3 h0
 unfold f7h
 refine Ok.ite (fun c=>?_) fun c=>Ok.ret ⟨⟨by have c:=of_decide_eq_false c;dsimp only at c ⊢;omega,by have c:=of_decide_eq_false c;dsimp only at c ⊢;omega,h0⟩,h3⟩
 have c:0<k:=of_decide_eq_true c
 dsimp only
 rw [b8n (by omega) (by omega),xQ]
 refine Ok.chk (a9r.2 (by simp)) (Ok.bind (a7c h3 (by simp [d3w])) fun y hy=>Ok.chk (a18.2 ⟨hy.1,hy.2.1⟩) (Ok.bind (a7c hy.2.2 (by omega)) fun z hz=>?_))
 have hp:d3w.getD y.1.toNat default∈d3w:=b43 (by have:=hy.1;have:=hy.2.1;omega)
 generalize d3w.getD y.1.toNat default=p at hp ⊢
 refine Ok.jn (P:=fun j:l6×a06=>KO l.length j.1∧TO j.2) (Ok.bind (a7c hz.2.2 (by omega)) fun u hu=>?_) fun j hj=>?_
 ·refine Ok.ite (fun _=>Ok.ret ⟨⟨rfl,hp,⟨by show (0:Int)≤1;omega,by show (1:Int)≤4;omega⟩,⟨vB 0,by show (0:Int)≤1000000;omega⟩,⟨vB 0,by show (0:Int)≤64;omega⟩,.inl ⟨rfl,rfl⟩⟩,hu.2.2⟩) fun _=>Ok.ite (fun _=>Ok.bind (a7c hu.2.2 (by omega)) fun v hv=>Ok.chk (a1z (by have:=hv.1;omega) (by have:=hv.2.1;omega)) (Ok.ret ⟨⟨rfl,hp,⟨vB 0,by show (0:Int)≤4;omega⟩,⟨by have:=hv.1;show 0≤v.1*65536;omega,by have:=hv.2.1;show v.1*65536≤1000000;omega⟩,⟨vB 0,by show (0:Int)≤64;omega⟩,.inl ⟨rfl,rfl⟩⟩,hv.2.2⟩)) fun _=>Ok.ite (fun _=>Ok.bind (b3d hu.2.2 (by omega) (by omega) (by omega)) fun v hv=>Ok.ret ⟨⟨rfl,hp,⟨vB 0,by show (0:Int)≤4;omega⟩,⟨vB 0,by show (0:Int)≤1000000;omega⟩,⟨by have:=hv.1;show 0≤v.1;omega,by have:=hv.2.1;show v.1≤64;omega⟩,.inr (.inl rfl)⟩,hv.2.2⟩) fun _=>Ok.ite (fun _=>Ok.bind (a7c hu.2.2 (by omega)) fun v hv=>Ok.ret ⟨⟨rfl,hp,⟨vB 0,by show (0:Int)≤4;omega⟩,⟨vB 0,by show (0:Int)≤1000000;omega⟩,⟨by have:=hv.1;show 0≤v.1;omega,by have:=hv.2.1;show v.1≤64;omega⟩,.inr (.inr rfl)⟩,hv.2.2⟩) fun _=>Ok.ite (fun _=>Ok.bind (b3d hu.2.2 (by omega) (by omega) (by omega)) fun v hv=>Ok.ret ⟨⟨rfl,hp,⟨by have:=hv.1;show 0≤v.1;omega,by have:=hv.2.1;show v.1≤4;omega⟩,⟨vB 0,by show (0:Int)≤1000000;omega⟩,⟨vB 0,by show (0:Int)≤64;omega⟩,.inl ⟨rfl,rfl⟩⟩,hv.2.2⟩) fun _=>Ok.ret ⟨⟨rfl,hp,⟨vB 0,by show (0:Int)≤4;omega⟩,⟨vB 0,by show (0:Int)≤1000000;omega⟩,⟨vB 0,by show (0:Int)≤64;omega⟩,.inl ⟨rfl,rfl⟩⟩,hu.2.2⟩
 ·refine Ok.chk (a7p (by simp;omega)) (Ok.chk (a1z (by omega) (by omega)) (Ok.ret ⟨⟨by dsimp only;omega,by dsimp only;simp;omega,fun i hi=>?_,hj.2⟩,by dsimp only;omega⟩))
  dsimp only at hi ⊢
  rw [c7r hi]
  split
  ·rename_i e;rw [e];exact hj.1
  ·exact h0 i (by simp at hi;omega)
theorem c3z {tape:List Int} {at_:Int} (ht:(V.sl (tape.map (V.int .i64))).fact):e9y tape at_=some true:=d9w (fun t h=>c4m h) ht
theorem e0c {tape:List Int} {at_:Int}:l9 Tryz.prog 4 [.sl (tape.map (V.int .i64)),.int .i64 at_] [] (fun r H=>r=.bool true∧H=[]) :=
 c1j (by kernel_rfl) fun h=>(WI.w (c3z (h _ (by simp))))
end Go.Ab