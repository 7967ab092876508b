/- Rules: numbers of terms, depths, and which are right. -/
import Derived.Test.YtoojdaakeiadjaaGreatDoorLA
import Derived.Test.YtoojdaakeiadjaaGreatDoorAbFun
set_option linter.all false
namespace Go.Ab
open Go.Proofs
noncomputable section
theorem a1z {n:Int} (h1:-1000000000000000≤n) (h2:n≤1000000000000000):a0c n=true:=a8p.2 ⟨by omega,by omega⟩
theorem a7p {n b:Nat} (h:n*b≤100000000):room n b=true:=b41.2 (by omega)
theorem e6n {α:Type} {l pre r:List α} {x:α} (hw:l=pre++x::r):pre.length<l.length:=by rw [hw];simp
theorem c2c {α:Type} {l pre r:List α} {x:α} (hw:l=pre++x::r):x∈l:=by rw [hw];simp
mutual
def d9.hgt:d9→Nat
 | ⟨_,_,_,_,k⟩=>d9.hgts k+1
def d9.hgts:List d9→Nat
 | []=>0
 | a::r=>max (d9.hgt a) (d9.hgts r)
end
theorem b8y (x:d9):x.hgt=d9.hgts x.Kids+1:=by cases x;simp only [d9.hgt]
theorem c2l:∀{l:List d9} {k:d9},k∈l→k.hgt≤d9.hgts l
 | a::r,k,h=>by
  simp only [d9.hgts]
  rcases wO.1 h with rfl|h
  ·omega
  ·have:=c2l h;omega
theorem a9d {x k:d9} (h:k∈x.Kids):k.hgt<x.hgt:=by rw [b8y x];have:=c2l h;omega
theorem b1u (x:d9):1≤x.hgt:=by rw [b8y];omega
theorem d9.ind {P:d9→Prop} (h:∀x,(∀k∈x.Kids,P k)→P x):∀x,P x:=by
 have:∀n (x:d9),x.hgt≤n→P x:=by
  intro n
  induction n with
  | zero=>intro x hx;have:=b1u x;omega
  | succ n ih=>intro x hx;exact h x fun k hk=>ih k (by have:=a9d hk;omega)
 exact fun x=>this x.hgt x (w8 _)
mutual
def d9.cnt:d9→Int
 | ⟨_,_,_,_,k⟩=>d9.cnts k+1
def d9.cnts:List d9→Int
 | []=>0
 | a::r=>d9.cnt a+d9.cnts r
end
theorem c33 (x:d9):x.cnt=d9.cnts x.Kids+1:=by cases x;simp only [d9.cnt]
theorem b7v:∀{l:List d9},(∀k∈l,1≤k.cnt)→(l.length:Int)≤d9.cnts l
 | [],_=>by simp [d9.cnts]
 | a::r,h=>by
  have h1:=h a (by simp)
  have h2:=b7v (l:=r) fun k hk=>h k (by simp [hk])
  simp only [d9.cnts,xU];omega
theorem c89:∀x:d9,1≤x.cnt:=d9.ind fun x ih=>by rw [c33];have:=b7v ih;omega
theorem c30 (l:List d9):(l.length:Int)≤d9.cnts l:=b7v fun k _=>c89 k
theorem a9h:∀a b:List d9,d9.cnts (a++b)=d9.cnts a+d9.cnts b
 | [],b=>by simp [d9.cnts]
 | x::r,b=>by simp only [xW,d9.cnts,a9h r b];omega
theorem d01:∀(x:d9) (m:Nat),x.hgt≤m→Ok (c9d m x) (·=min x.cnt 61):=by
 refine d9.ind fun x ih m hm=>?_
 cases m with
 | zero=>have:=b1u x;omega
 | succ m =>
  simp only [c9d]
  refine Ok.bind (Ok.forI (all:=x.Kids) (Q:=fun o=>o=if 1+d9.cnts x.Kids≤60 then .nx (1+d9.cnts x.Kids) else .ex 61) (fun pre s=>s=1+d9.cnts pre∧s≤60) x.Kids [] 0 1 rfl rfl ⟨by simp [d9.cnts],by omega⟩ (fun pre k r s hw hs=>?_) fun s hs=>?_) fun o ho=>?_
  ·obtain ⟨hs,hs2⟩:=hs
   have hk:=c2c hw
   have h1:=c30 pre
   have h2:=c30 r
   have h3:=c89 k
   have hc:d9.cnts x.Kids=d9.cnts pre+(k.cnt+d9.cnts r):=by rw [hw,a9h];simp only [d9.cnts]
   refine Ok.bind (ih k hk m (by have:=a9d hk;omega)) fun y hy=>?_
   subst hy
   refine Ok.chk (a1z (by omega) (by omega)) (Ok.ite (fun c=>?_) fun c=>?_)
   ·have c:=of_decide_eq_true c
    refine Ok.ret ?_
    show Fl.ex 61=_
    rw [if_neg (by omega)]
   ·have c:=of_decide_eq_false c
    exact Ok.ret ⟨by rw [a9h];simp only [d9.cnts];omega,by omega⟩
  ·rw [if_pos (by omega),←hs.1]
  ·subst ho
   rw [c33]
   by_cases c:1+d9.cnts x.Kids≤60
   ·rw [if_pos c];exact Ok.ret (by show _=min _ _;omega)
   ·rw [if_neg c];exact Ok.ret (by show _=min _ _;omega)
theorem d02 (x:d9):F_g x=some (min x.cnt 61):=b6n ⟨x.hgt,fun m hm=>(d01 x m hm).eq⟩
theorem b53:∀a b:List d9,d9.hgts (a++b)=max (d9.hgts a) (d9.hgts b)
 | [],b=>by simp [d9.hgts]
 | x::r,b=>by simp only [xW,d9.hgts,b53 r b];omega
theorem d2q:∀(x:d9) (m:Nat) (left:Int),x.hgt≤m→0≤left→left≤1000→Ok (c9c m x left) (·=min (x.hgt:Int) (left+1)):=by
 refine d9.ind fun x ih m left hm h0 h1=>?_
 cases m with
 | zero=>have:=b1u x;omega
 | succ m =>
  have hp:=b1u x
  simp only [c9c]
  refine Ok.ite (fun c=>?_) fun c=>?_
  ·have c:=of_decide_eq_true c
   exact Ok.ret (by show _=min _ _;omega)
  ·have c:=of_decide_eq_false c
   refine Ok.bind (Ok.foldI (all:=x.Kids) (Q:=fun o=>o=min (d9.hgts x.Kids:Int) left) (fun pre s=>s=min (d9.hgts pre:Int) left) x.Kids [] 0 0 rfl rfl (by simp only [d9.hgts];omega) (fun pre k r s hw hs=>?_) fun s hs=>hs) fun o ho=>?_
   ·have hk:=c2c hw
    refine Ok.chk (a1z (by omega) (by omega)) (Ok.bind (ih k hk m (left - 1) (by have:=a9d hk;omega) (by omega) (by omega)) fun y hy=>Ok.ret ?_)
    subst hy hs
    rw [b53];simp only [d9.hgts];omega
   ·subst ho
    refine Ok.chk (a1z (by omega) (by omega)) (Ok.ret ?_)
    rw [b8y];omega
theorem d2r (x:d9):F_h x 20=some (min (x.hgt:Int) 21):=b6n ⟨x.hgt,fun m hm=>(d2q x m 20 hm (by omega) (by omega)).eq⟩
theorem b5d {α:Type} {body:Int→α→Unit→Option (Fl Unit Int)} (p:α→Prop) [DecidablePred p]:∀(xs:List α) (k:Int),0≤k→(∀k x,x∈xs→body k x ()=some (if p x then .ex k else .nx ())) →
  ∃o,forL body xs k ()=some o∧((∃x∈xs,p x)→∃r,o=.ex r∧0≤r)∧((∀x∈xs,¬p x)→o=.nx ())
 | [],k,hk,h=>⟨.nx (),rfl,fun ⟨x,hx,_⟩=>by simp at hx,fun _=>rfl⟩
 | x::r,k,hk,h=>by
  simp only [forL,h k x (by simp)]
  by_cases c:p x
  ·simp only [if_pos c,xQ,e0y]
   exact ⟨_,rfl,fun _=>⟨k,rfl,hk⟩,fun hn=>absurd c (hn x (by simp))⟩
  ·simp only [if_neg c,xQ,d3n]
   obtain ⟨o,h1,h2,h3⟩:=b5d p r (k+1) (by omega) fun k y hy=>h k y (by simp [hy])
   refine ⟨o,h1,fun ⟨y,hy,hp⟩=>?_,fun hn=>h3 fun y hy=>hn y (by simp [hy])⟩
   rcases wO.1 hy with rfl|hy
   ·exact absurd hp c
   ·exact h2 ⟨y,hy,hp⟩
open Classical in
theorem a8s {α:Type} {body:Int→α→Unit→Option (Fl Unit Int)} (p:α→Prop) (xs:List α) [Decidable (∃x∈xs,p x)] (h:∀k x,x∈xs→body k x ()=some (if p x then .ex k else .nx ())) :
  (((forL body xs 0 ()).bind fun o=>o.elim (fun _=>some (-1)) fun r=>some r).bind fun y=>some (decide (0≤y)))=some (decide (∃x∈xs,p x)):=by
 obtain ⟨o,h1,h2,h3⟩:=b5d p xs 0 (vB 0) h
 rw [h1]
 by_cases c:∃x∈xs,p x
 ·obtain ⟨r,rfl,hr⟩:=h2 c
  simp only [xQ,e0y,wK hr,wK c]
 ·have:=h3 fun x hx hp=>c ⟨x,hx,hp⟩
  subst this
  simp only [xQ,d3n,x4 c]
  rfl
def qP (s:Str):Prop:=(∀c∈s,33≤c.toNat∧c.toNat≤126∧c.toNat≠34)∧1≤s.length∧s.length≤40
def okN (x:d9):Prop :=
 ((x.Op=1∨x.Op=2∨x.Op=3)∧qP x.Text∧x.Number=0∧x.Print=0∧x.Kids=[]) ∨
 ((x.Op=4∨x.Op=5∨x.Op=6∨x.Op=8)∧x.Text=[]∧0≤x.Number∧x.Number≤1099511627776∧x.Print=0∧x.Kids=[]) ∨
 (x.Op=7∧x.Text=[]∧x.Number=0∧x.Kids=[]) ∨
 ((x.Op=9∨x.Op=10∨x.Op=11)∧x.Text=[]∧x.Number=0∧x.Print=0∧((x.Op=9∧x.Kids.length=1)∨(x.Op≠9∧2≤x.Kids.length)))
inductive Rgt:d9→Prop
 | mk (x:d9) (h:okN x) (hk:∀k∈x.Kids,Rgt k):Rgt x
theorem Rgt.ok {x:d9} (h:Rgt x):okN x:=by cases h;assumption
theorem Rgt.kid {x k:d9} (h:Rgt x) (hk:k∈x.Kids):Rgt k:=by cases h with|mk _ _ h=>exact h k hk
open Classical in
theorem d67 (s:Str):e3a s=some (decide (qP s)):=by
 refine Ok.eq ?_
 unfold e3a
 refine Ok.bind (Ok.forI (all:=s) (Q:=Fl.elim (fun _=>∀c∈s,33≤c.toNat∧c.toNat≤126∧c.toNat≠34) fun r=>r=false∧¬qP s) (fun pre _=>∀c∈pre,33≤c.toNat∧c.toNat≤126∧c.toNat≠34) s [] 0 () rfl rfl (by simp) (fun pre c r _ hw hs=>?_) fun _ hs=>hs) fun o ho=>?_
 ·unfold f7n
  refine Ok.grp (Ok.grp (Ok.ite (fun c1=>Ok.ret ⟨rfl,fun hq=>?_⟩) fun c1=>Ok.ret ?_))
  ·have:=hq.1 c (c2c hw)
   simp only [wI,xG] at c1
   omega
  ·simp only [z4,zK] at c1
   intro d hd
   rcases wC.1 hd with hd|hd
   ·exact hs d hd
   ·cases z9.1 hd
    omega
 ·cases o with
  | ex r =>
   obtain ⟨rfl,h⟩:=ho
   exact Ok.ret (x4 h).symm
  | nx u =>
   refine Ok.grp (Ok.ret ?_)
   rw [wJ]
   simp only [xY,xG]
   exact ⟨fun h=>⟨ho,by omega,by omega⟩,fun h=>⟨by have:=h.2.1;omega,by have:=h.2.2;omega⟩⟩
theorem f5g {α:Type} {l:List α}:(l.length:Int)=0↔l=[]:=by
 rw [←zM];omega
open Classical in
theorem d0q:∀(x:d9) (m:Nat),4*x.hgt≤m→Ok (c3g m x) (·=decide (Rgt x)):=by
 refine d9.ind fun x ih m hm=>?_
 have hp:=b1u x
 obtain ⟨m,rfl⟩:∃n,m=n+4:=⟨m - 4,by omega⟩
 have hc:c3e (m+3) x.Kids=some (decide (∃k∈x.Kids,¬Rgt k)):=by
  simp only [c3e,c5f]
  refine a8s (fun k=>¬Rgt k) x.Kids fun k y hy=>?_
  have:=(ih y hy m (by have:=a9d hy;omega)).eq
  simp only [c5g,this,xQ]
  by_cases c:Rgt y<;>simp [c]
 simp only [c3g]
 refine Ok.jn (P:=fun b=>b=decide (okN x)) ?_ fun y hy=>?_
 ·refine Ok.jn (P:=fun b=>b=decide (x.Op=1∨x.Op=2∨x.Op=3)) (Ok.ite (fun c=>Ok.ret (by simpa using .inl (of_decide_eq_true c))) fun c=>Ok.ite (fun c2=>Ok.ret (by simpa using .inr (.inl (of_decide_eq_true c2)))) fun c2=>Ok.ret (by simp at c c2;simp [c,c2])) fun b hb=>?_
  subst hb
  refine Ok.ite (fun c=>?_) fun c=>?_
  ·have c:=of_decide_eq_true c
   rw [d67,xQ]
   refine Ok.grp (Ok.grp (Ok.grp (Ok.ret ?_)))
   rw [wJ]
   simp only [xY,xG,f5g]
   constructor
   ·rintro ⟨⟨⟨h1,h2⟩,h3⟩,h4⟩;exact .inl ⟨c,h1,h2,h3,h4⟩
   ·rintro (h|⟨h,_⟩|⟨h,_⟩|⟨h,_⟩)
    ·exact ⟨⟨⟨h.2.1,h.2.2.1⟩,h.2.2.2.1⟩,h.2.2.2.2⟩
    all_goals omega
  ·have c:=of_decide_eq_false c
   refine Ok.jn (P:=fun b=>b=decide (x.Op=4∨x.Op=5∨x.Op=6∨x.Op=8)) (Ok.ite (fun c=>Ok.ret (by simpa using .inl (of_decide_eq_true c))) fun c=>Ok.ite (fun c2=>Ok.ret (by simpa using .inr (.inl (of_decide_eq_true c2)))) fun c2=>Ok.ite (fun c3=>Ok.ret (by simpa using .inr (.inr (.inl (of_decide_eq_true c3))))) fun c3=>Ok.ret (by simp at c c2 c3;simp [c,c2,c3])) fun b hb=>?_
   subst hb
   refine Ok.ite (fun c1=>?_) fun c1=>?_
   ·have c1:=of_decide_eq_true c1
    refine Ok.grp (Ok.grp (Ok.grp (Ok.grp (Ok.ret ?_))))
    rw [wJ]
    simp only [xY,xG,f5g]
    constructor
    ·rintro ⟨⟨⟨⟨h1,h2⟩,h3⟩,h4⟩,h5⟩;exact .inr (.inl ⟨c1,h1,h2,h3,h4,h5⟩)
    ·rintro (⟨h,_⟩|h|⟨h,_⟩|⟨h,_⟩)
     ·omega
     ·exact ⟨⟨⟨⟨h.2.1,h.2.2.1⟩,h.2.2.2.1⟩,h.2.2.2.2.1⟩,h.2.2.2.2.2⟩
     all_goals omega
   ·have c1:=of_decide_eq_false c1
    refine Ok.ite (fun c2=>?_) fun c2=>?_
    ·have c2:=of_decide_eq_true c2
     refine Ok.grp (Ok.grp (Ok.ret ?_))
     rw [wJ]
     simp only [xY,xG,f5g]
     constructor
     ·rintro ⟨⟨h1,h2⟩,h3⟩;exact .inr (.inr (.inl ⟨c2,h1,h2,h3⟩))
     ·rintro (⟨h,_⟩|⟨h,_⟩|h|⟨h,_⟩)
      ·omega
      ·omega
      ·exact ⟨⟨h.2.1,h.2.2.1⟩,h.2.2.2⟩
      ·omega
    ·have c2:=of_decide_eq_false c2
     refine Ok.jn (P:=fun b=>b=decide (x.Op=9∨x.Op=10∨x.Op=11)) (Ok.ite (fun c=>Ok.ret (by simpa using .inl (of_decide_eq_true c))) fun c=>Ok.ite (fun c2=>Ok.ret (by simpa using .inr (.inl (of_decide_eq_true c2)))) fun c2=>Ok.ret (by simp at c c2;simp [c,c2])) fun b hb=>?_
     subst hb
     refine Ok.ite (fun c3=>?_) fun c3=>?_
     ·have c3:=of_decide_eq_true c3
      refine Ok.grp (Ok.grp (Ok.grp (Ok.ret ?_)))
      rw [wJ]
      simp only [xY,wI,xO,xG,zK]
      constructor
      ·rintro ⟨⟨⟨h1,h2⟩,h3⟩,h4⟩
       refine .inr (.inr (.inr ⟨c3,h1,h2,h3,?_⟩))
       rcases h4 with h4|h4
       ·exact .inl ⟨h4.1,by omega⟩
       ·exact .inr ⟨h4.1,by omega⟩
      ·rintro (⟨h,_⟩|⟨h,_⟩|⟨h,_⟩|h)
       ·omega
       ·omega
       ·omega
       ·refine ⟨⟨⟨h.2.1,h.2.2.1⟩,h.2.2.2.1⟩,?_⟩
        rcases h.2.2.2.2 with h4|h4
        ·exact .inl ⟨h4.1,by omega⟩
        ·exact .inr ⟨h4.1,by omega⟩
     ·have c3:=of_decide_eq_false c3
      refine Ok.ret (x4 ?_).symm
      rintro (⟨h,_⟩|⟨h,_⟩|⟨h,_⟩|⟨h,_⟩)<;>omega
 ·subst hy
  refine Ok.jn (P:=fun b=>b=decide (Rgt x)) (Ok.ite (fun c=>?_) fun c=>?_) fun b hb=>Ok.ret hb
  ·have c:=of_decide_eq_true c
   rw [hc]
   refine Ok.ret ?_
   rw [wJ]
   simp only [xO,zK,xG]
   exact ⟨fun h=>.mk x c fun k hk=>Classical.byContradiction fun hn=>h ⟨k,hk,hn⟩,fun h ⟨k,hk,hn⟩=>hn (h.kid hk)⟩
  ·have c:=of_decide_eq_false c
   exact Ok.ret (x4 fun h=>c h.ok).symm
open Classical in
theorem right_eq (x:d9):F_4 x=some (decide (Rgt x)):=b6n ⟨4*x.hgt,fun m hm=>(d0q x m hm).eq⟩
structure PV (x:d9):Prop where
 cnt:x.cnt≤60
 hgt:x.hgt≤20
 rgt:Rgt x
open Classical in
def d9.err (x:d9):Int:=if 60<x.cnt then 3 else if 20<x.hgt then 9 else if ¬Rgt x then 1 else 0
open Classical in
theorem d51 (x:d9):d4t x=some x.err:=by
 refine Ok.eq ?_
 unfold d4t d9.err
 rw [d02,xQ]
 refine Ok.ite (fun c=>Ok.ret (by rw [if_pos (by have:=of_decide_eq_true c;omega)])) fun c=>?_
 have c:=of_decide_eq_false c
 rw [if_neg (by omega),d2r,xQ]
 refine Ok.ite (fun c=>Ok.ret (by rw [if_pos (by have:=of_decide_eq_true c;omega)])) fun c=>?_
 have c:=of_decide_eq_false c
 rw [if_neg (by omega),right_eq,xQ]
 refine Ok.ite (fun c=>Ok.ret (by rw [if_pos (by simpa using c)])) fun c=>Ok.ret (by rw [if_neg (by simpa using c)])
theorem c2y {x:d9}:x.err=0↔PV x:=by
 classical
 unfold d9.err
 constructor
 ·intro h
  split at h
  ·omega
  ·split at h
   ·omega
   ·split at h
    ·omega
    ·rename_i h1 h2 h3
     exact ⟨by omega,by omega,Classical.byContradiction h3⟩
 ·rintro ⟨h1,h2,h3⟩
  rw [if_neg (by omega),if_neg (by omega),if_neg (fun h=>h h3)]
def d1x (ks:List l6) (f:l5) (s:l8) (o:Int) (t:Str) (n p:Int):Bool :=
 if o=1 then decide (0≤f.Kind∧f.Kind<ks.length∧(ks.getD f.Kind.toNat default).Name=t)
 else if o=2 then decide (s.Place.Path.take t.length=t)
 else if o=3 then decide (s.Place.Path.drop (s.Place.Path.length - t.length)=t)
 else if o=4 then decide (s.Place.Source=n)
 else if o=5 then decide (n≤s.Layers.length)
 else if o=6 then decide (s.From≤s.To∧IntKind.wrap .u64 n≤IntKind.wrap .u64 (IntKind.wrap .u64 s.To - IntKind.wrap .u64 s.From))
 else if o=7 then decide (f.Fingerprint=p)
 else decide (s.Place.Time<n)
mutual
def hold (ks:List l6) (f:l5) (s:l8):d9→Bool
 | ⟨o,t,n,p,k⟩=>if o=9 then !holdA ks f s k else if o=10 then holdA ks f s k else if o=11 then c4o ks f s k else d1x ks f s o t n p
def holdA (ks:List l6) (f:l5) (s:l8):List d9→Bool
 | []=>true
 | a::r=>hold ks f s a&&holdA ks f s r
def c4o (ks:List l6) (f:l5) (s:l8):List d9→Bool
 | []=>false
 | a::r=>hold ks f s a||c4o ks f s r
end
theorem c0s (ks:List l6) (f:l5) (s:l8) (x:d9):hold ks f s x=if x.Op=9 then !holdA ks f s x.Kids else if x.Op=10 then holdA ks f s x.Kids else if x.Op=11 then c4o ks f s x.Kids else d1x ks f s x.Op x.Text x.Number x.Print:=by
 cases x;simp only [hold]
theorem b8x {ks:List l6} {f:l5} {s:l8}:∀{l:List d9},holdA ks f s l=true↔∀k∈l,hold ks f s k=true
 | []=>by simp [holdA]
 | a::r=>by simp [holdA,b8x (l:=r)]
theorem b8w {ks:List l6} {f:l5} {s:l8}:∀{l:List d9},c4o ks f s l=true↔∃k∈l,hold ks f s k=true
 | []=>by simp [c4o]
 | a::r=>by simp [c4o,b8w (l:=r)]
theorem pre_eq (s p:Str):d4v s p=some (decide (s.take p.length=p)):=by
 refine Ok.eq ?_
 unfold d4v e9t
 refine Ok.bind (Ok.jn (P:=fun b=>b=decide (s.take p.length=p)) (Ok.ite (fun c=>?_) fun c=>?_) fun b hb=>Ok.ret hb) fun y hy=>Ok.ret hy
 ·have c:=of_decide_eq_true c
  exact Ok.chk (a7y.2 ⟨by omega,by omega,by omega⟩) (Ok.ret (by rw [xN]))
 ·have c:=of_decide_eq_false c
  refine Ok.ret (x4 fun h=>?_).symm
  have:=congrArg List.length h
  rw [xS] at this
  omega
theorem e3o {s p:Str} (hs:s.length≤1000000):e2s s p=some (decide (s.drop (s.length - p.length)=p)):=by
 refine Ok.eq ?_
 unfold e2s e9s
 refine Ok.bind (Ok.jn (P:=fun b=>b=decide (s.drop (s.length - p.length)=p)) (Ok.ite (fun c=>?_) fun c=>?_) fun b hb=>Ok.ret hb) fun y hy=>Ok.ret hy
 ·have c:=of_decide_eq_true c
  have e:((s.length:Int) - (p.length:Int)).toNat=s.length - p.length:=by omega
  exact Ok.chk (a1z (by omega) (by omega)) (Ok.chk (a7y.2 ⟨by omega,by omega,by omega⟩) (Ok.ret (by rw [e])))
 ·have c:=of_decide_eq_false c
  refine Ok.ret (x4 fun h=>?_).symm
  have:=congrArg List.length h
  rw [List.length_drop] at this
  omega
open Classical in
theorem d20 (ks:List l6) (f:l5) (s:l8) (hs:s.Place.Path.length≤1000000):∀(x:d9) (m:Nat),5*x.hgt≤m→Rgt x→Ok (b9x m x ks f s) (·=hold ks f s x):=by
 refine d9.ind fun x ih m hm hx=>?_
 have hp:=b1u x
 obtain ⟨m,rfl⟩:∃n,m=n+5:=⟨m - 5,by omega⟩
 have h1:∀k∈x.Kids,b5l (m+1) k ks f s=some (hold ks f s k):=fun k hk=>by
  rw [b5l,(ih k hk m (by have:=a9d hk;omega) (hx.kid hk)).eq];rfl
 have h1':∀k∈x.Kids,b5l (m+2) k ks f s=some (hold ks f s k):=fun k hk=>by
  rw [b5l,(ih k hk (m+1) (by have:=a9d hk;omega) (hx.kid hk)).eq];rfl
 have h1'':∀k∈x.Kids,b5l (m+4) k ks f s=some (hold ks f s k):=fun k hk=>by
  rw [b5l,(ih k hk (m+3) (by have:=a9d hk;omega) (hx.kid hk)).eq];rfl
 rw [c0s,b9x]
 by_cases c9:x.Op=9
 ·rw [if_pos c9]
  have hk:∃k,x.Kids=[k]:=by
   rcases hx.ok with ⟨h,_⟩|⟨h,_⟩|⟨h,_⟩|⟨_,_,_,_,h|h⟩
   ·omega
   ·omega
   ·omega
   ·exact List.length_eq_one_iff.1 h.2
   ·exact absurd c9 h.1
  obtain ⟨k,hk⟩:=hk
  have e:x.Kids.getD 0 default=k:=by rw [hk];rfl
  simp only [c9]
  refine Ok.ite (fun f=>by cases f) fun _=>Ok.ite (fun f=>by cases f) fun _=>Ok.ite (fun f=>by cases f) fun _=>Ok.ite (fun f=>by cases f) fun _=>Ok.ite (fun f=>by cases f) fun _=>Ok.ite (fun f=>by cases f) fun _=>Ok.ite (fun f=>by cases f) fun _=>Ok.ite (fun f=>by cases f) fun _=>Ok.ite (fun _=>?_) fun f=>by cases f
  refine Ok.chk (a18.2 ⟨by omega,by rw [hk];simp⟩) ?_
  rw [e,h1'' k (by rw [hk];simp)]
  refine Ok.ret ?_
  rw [hk];simp [holdA]
 ·rw [if_neg c9]
  by_cases c10:x.Op=10
  ·rw [if_pos c10]
   have hc:b9w (m+4) x.Kids ks f s=some (decide (∃k∈x.Kids,hold ks f s k=false)):=by
    simp only [b9w,c02]
    refine a8s (fun k=>hold ks f s k=false) x.Kids fun k y hy=>?_
    rw [b9z,h1 y hy]
    cases hold ks f s y<;>simp
   simp only [c10]
   refine Ok.ite (fun f=>by cases f) fun _=>Ok.ite (fun f=>by cases f) fun _=>Ok.ite (fun f=>by cases f) fun _=>Ok.ite (fun f=>by cases f) fun _=>Ok.ite (fun f=>by cases f) fun _=>Ok.ite (fun f=>by cases f) fun _=>Ok.ite (fun f=>by cases f) fun _=>Ok.ite (fun f=>by cases f) fun _=>Ok.ite (fun f=>by cases f) fun _=>Ok.ite (fun _=>?_) fun f=>by cases f
   rw [hc]
   refine Ok.ret ?_
   rw [wJ,b8x]
   simp only [xO,zK]
   exact ⟨fun h k hk=>by
    cases e:hold ks f s k with
    | true=>rfl
    | false=>exact absurd ⟨k,hk,e⟩ h,fun h ⟨k,hk,e⟩=>by rw [h k hk] at e;cases e⟩
  ·rw [if_neg c10]
   by_cases c11:x.Op=11
   ·rw [if_pos c11]
    have hc:b9v (m+4) x.Kids ks f s=some (decide (∃k∈x.Kids,hold ks f s k=true)):=by
     simp only [b9v,c01]
     refine a8s (fun k=>hold ks f s k=true) x.Kids fun k y hy=>?_
     rw [h1' y hy]
     cases hold ks f s y<;>simp
    simp only [c11]
    refine Ok.ite (fun f=>by cases f) fun _=>Ok.ite (fun f=>by cases f) fun _=>Ok.ite (fun f=>by cases f) fun _=>Ok.ite (fun f=>by cases f) fun _=>Ok.ite (fun f=>by cases f) fun _=>Ok.ite (fun f=>by cases f) fun _=>Ok.ite (fun f=>by cases f) fun _=>Ok.ite (fun f=>by cases f) fun _=>Ok.ite (fun f=>by cases f) fun _=>Ok.ite (fun f=>by cases f) fun _=>?_
    rw [hc]
    refine Ok.ret ?_
    rw [wJ,b8w]
    simp only [xG]
   ·rw [if_neg c11]
    have ho:x.Op=1∨x.Op=2∨x.Op=3∨x.Op=4∨x.Op=5∨x.Op=6∨x.Op=7∨x.Op=8:=by
     rcases hx.ok with ⟨h,_⟩|⟨h,_⟩|⟨h,_⟩|⟨h,_⟩<;>omega
    unfold d1x
    refine Ok.ite (fun c=>?_) fun c=>?_
    ·rw [if_pos (of_decide_eq_true c)]
     refine Ok.ite (fun c1=>Ok.ite (fun c2=>Ok.chk (a18.2 ⟨of_decide_eq_true c1,of_decide_eq_true c2⟩) (Ok.ret ?_)) fun c2=>Ok.ret ?_) fun c1=>Ok.ret ?_
     ·exact decide_eq_decide.2 ⟨fun h=>⟨of_decide_eq_true c1,of_decide_eq_true c2,h⟩,fun h=>h.2.2⟩
     ·exact (x4 fun h=>(of_decide_eq_false c2) h.2.1).symm
     ·exact (x4 fun h=>(of_decide_eq_false c1) h.1).symm
    ·rw [if_neg (of_decide_eq_false c)]
     refine Ok.ite (fun c=>?_) fun c=>?_
     ·rw [if_pos (of_decide_eq_true c),pre_eq];exact Ok.ret rfl
     ·rw [if_neg (of_decide_eq_false c)]
      refine Ok.ite (fun c=>?_) fun c=>?_
      ·rw [if_pos (of_decide_eq_true c),e3o hs];exact Ok.ret rfl
      ·rw [if_neg (of_decide_eq_false c)]
       refine Ok.ite (fun c=>?_) fun c=>?_
       ·rw [if_pos (of_decide_eq_true c)];exact Ok.ret rfl
       ·rw [if_neg (of_decide_eq_false c)]
        refine Ok.ite (fun c=>?_) fun c=>?_
        ·rw [if_pos (of_decide_eq_true c)];exact Ok.ret rfl
        ·rw [if_neg (of_decide_eq_false c)]
         refine Ok.ite (fun c=>?_) fun c=>?_
         ·rw [if_pos (of_decide_eq_true c)]
          refine Ok.jn (P:=fun b=>b=decide (s.From≤s.To∧IntKind.wrap .u64 x.Number≤IntKind.wrap .u64 (IntKind.wrap .u64 s.To - IntKind.wrap .u64 s.From))) (Ok.ite (fun c1=>Ok.ret ?_) fun c1=>Ok.ret ?_) fun b hb=>Ok.ret hb
          ·exact decide_eq_decide.2 ⟨fun h=>⟨of_decide_eq_true c1,h⟩,fun h=>h.2⟩
          ·exact (x4 fun h=>(of_decide_eq_false c1) h.1).symm
         ·rw [if_neg (of_decide_eq_false c)]
          refine Ok.ite (fun c=>?_) fun c=>?_
          ·rw [if_pos (of_decide_eq_true c)];exact Ok.ret rfl
          ·rw [if_neg (of_decide_eq_false c)]
           have c:=of_decide_eq_false c
           refine Ok.ite (fun c=>Ok.ret rfl) fun c8=>?_
           have c8:=of_decide_eq_false c8
           simp only [zK] at *
           omega
theorem d21 {ks:List l6} {f:l5} {s:l8} (hs:s.Place.Path.length≤1000000) {x:d9} (hx:Rgt x):F_6 x ks f s=some (hold ks f s x):=b6n ⟨5*x.hgt,fun m hm=>(d20 ks f s hs x m hm hx).eq⟩
theorem Le.loopL {σ ρ:Type} {f g:σ→Option (Fl σ ρ)} {s:σ} (h:∀s,Le (f s) (g s)):Le (Go.Ab.loop f s) (Go.Ab.loop g s):=fun r hr=>by
 obtain ⟨n,hn⟩:=a5b.1 hr
 exact a5b.2 ⟨n,Le.iter h n s r hn⟩
theorem Le.up {α:Type} {f:Nat→Option α} (h:∀n,Le (f n) (f (n+1))) {n m:Nat} (hm:n≤m):Le (f n) (f m):=by
 induction hm with
 | refl=>exact Le.refl
 | step _ ih=>exact fun r hr=>h _ r (ih r hr)
theorem Ok.lim {α:Type} {f:Nat→Option α} {Q:α→Prop} (h:∀n,Le (f n) (f (n+1))) (n:Nat) (hn:Ok (f n) Q):Ok (Go.Ab.lim f) Q:=by
 obtain ⟨y,e,hy⟩:=hn
 exact ⟨y,b6n ⟨n,fun m hm=>Le.up h hm y e⟩,hy⟩
def TO (t:a06):Prop:=0≤t.at_∧(t.L.length:Int)≤9223372036854775807
theorem a7c {t:a06} {n:Int} (h:TO t) (hn:0<n):Ok (F_3 t n) fun y=>0≤y.1∧y.1<n∧TO y.2:=by
 unfold F_3
 refine Ok.ite (fun c=>Ok.ret ⟨vB 0,hn,h⟩) fun c=>?_
 have c':t.at_<t.L.length:=by simpa using c
 have h1:=h.1;have h2:=h.2
 refine Ok.chk (a18.2 ⟨h.1,c'⟩) (Ok.chk (a8p.2 ⟨by omega,by omega⟩) (Ok.chk (b48.2 ⟨Int.emod_nonneg _ (by decide),hn⟩) (Ok.ret ⟨Int.emod_nonneg _ (by omega),Int.emod_lt_of_pos _ hn,?_,h2⟩)))
 show 0≤t.at_+1
 omega
theorem b3d {t:a06} {a b:Int} (h:TO t) (h1:-100000≤a) (h2:a≤b) (h3:b≤100000):Ok (F_y t a b) fun y=>a≤y.1∧y.1≤b∧TO y.2:=by
 unfold F_y
 refine Ok.chk (a1z (by omega) (by omega)) (Ok.chk (a1z (by omega) (by omega)) (Ok.bind (a7c h (by omega)) fun y hy=>Ok.chk (a1z (by omega) (by omega)) (Ok.ret ⟨?_,?_,hy.2.2⟩)))
 ·show a≤a+y.1;omega
 ·show a+y.1≤b;omega
theorem c1z (d:Nat):(1:Int)≤3^d:=by
 induction d with
 | zero=>decide
 | succ d ih=>rw [Int.pow_succ];omega
theorem c7l {c:Nat}:∀{l:List d9},(∀k∈l,k.hgt≤c)→d9.hgts l≤c
 | [],_=>by simp [d9.hgts]
 | a::r,h=>by
  have h1:=h a (by simp)
  have h2:=c7l (l:=r) fun k hk=>h k (by simp [hk])
  simp only [d9.hgts];omega
theorem b6j:∀n (t:a06) (d:Int),Le (b6z n t d) (b6z (n+1) t d)
 | 0,t,d=>by rw [b6z];exact Le.non
 | n+1,t,d=>by
  have ih:=b6j n
  rw [b6z,b6z]
  (repeat' (with_reducible first|exact Le.refl|assumption|exact ih _ _|(refine Le.bind ?_ fun _=>?_)|(refine Le.jn ?_ fun _=>?_)|(refine Le.grp fun _=>?_)|(refine Le.chk ?_)|(refine Le.cond ?_ ?_)|(refine Le.fl (fun _=>?_) fun _=>?_)|(refine Le.sum (fun _=>?_) fun _=>?_)|(refine Le.loopL fun _=>?_)))
inductive Wf:d9→Prop
 | mk (x:d9) (h0:0≤x.Print) (h1:x.Print<18446744073709551616) (hk:∀k∈x.Kids,Wf k):Wf x
structure gt (d:Nat) (x:d9):Prop where
 rgt:Rgt x
 wf:Wf x
 hgt:x.hgt≤d+1
 cnt:2*x.cnt+1≤3^(d+1)
theorem gt.up {d:Nat} {x:d9} (h:gt d x):gt (d+1) x:=by
 obtain ⟨h1,h4,h2,h3⟩:=h
 have:=c1z (d+1)
 refine ⟨h1,h4,by omega,?_⟩
 rw [Int.pow_succ 3 (d+1)];omega
theorem gt.lift {x:d9}:∀{d:Nat},gt 0 x→gt d x
 | 0,h=>h
 | d+1,h=>(gt.lift h).up
theorem b7n {x:d9} (hk:x.Kids=[]) (h:okN x) (hp:0≤x.Print∧x.Print<18446744073709551616):gt 0 x:=by
 refine ⟨.mk x h (by rw [hk];simp),.mk x hp.1 hp.2 (by rw [hk];simp),?_,?_⟩
 ·rw [b8y,hk];simp [d9.hgts]
 ·rw [c33,hk];simp [d9.cnts]
theorem c7n {e:Nat} {op:Int} {kids:List d9} (ho:okN (d9.mk op [] 0 0 kids)) (hk:∀k∈kids,gt e k) (hl:kids.length≤3):gt (e+1) (d9.mk op [] 0 0 kids):=by
 have p3:=c1z (e+1)
 refine ⟨.mk _ ho fun k h=>(hk k h).rgt,.mk _ (by show (0:Int)≤0;omega) (by show (0:Int)<_;omega) fun k h=>(hk k h).wf,?_,?_⟩
 ·rw [b8y]
  have:=c7l (c:=e+1) (l:=kids) fun k h=>(hk k h).hgt
  show d9.hgts kids+1≤_;omega
 ·rw [c33]
  show 2*(d9.cnts kids+1)+1≤_
  have h3:∀l:List d9,(∀k∈l,gt e k)→l.length≤3→2*d9.cnts l≤3*(3^(e+1) - 1):=by
   intro l h hl
   match l,h,hl with
   | [],_,_=>simp only [d9.cnts];omega
   | [a],h,_=>have h1:=(h a (by simp)).cnt;simp only [d9.cnts];omega
   | [a,b],h,_=>have h1:=(h a (by simp)).cnt;have h2:=(h b (by simp)).cnt;simp only [d9.cnts];omega
   | [a,b,c],h,_=>have h1:=(h a (by simp)).cnt;have h2:=(h b (by simp)).cnt;have h3:=(h c (by simp)).cnt;simp only [d9.cnts];omega
   | _::_::_::_::_,_,hl=>simp only [xU] at hl;omega
  have:=h3 kids hk hl
  rw [Int.pow_succ 3 (e+1)];omega
instance (s:Str):Decidable (qP s):=inferInstanceAs (Decidable (_∧_))
theorem e6o:∀i,i<4→qP ([[107,105,110,100,48],[107,105,110,100,49],[112,108,97,105,110,48],[110,111,110,101]].getD i default):=by
 intro i hi
 have:i=0∨i=1∨i=2∨i=3:=by omega
 rcases this with rfl|rfl|rfl|rfl<;>decide
theorem e4m:∀i,i<6→qP ([[97],[49,58],[102,48],[100,111,99,115,47],[33,105,110],[50]].getD i default):=by
 intro i hi
 have:i=0∨i=1∨i=2∨i=3∨i=4∨i=5:=by omega
 rcases this with rfl|rfl|rfl|rfl|rfl|rfl<;>decide
theorem wrp {z:Int} (h0:0≤z) (h1:z≤1000000):IntKind.wrap .u64 z=z:=by
 rw [IntKind.wrap_u64];omega
theorem d0x:∀(d m:Nat) (t:a06),d<m→TO t→d≤100→Ok (b6z m t ((d:Int)+1)) fun y=>gt d y.1∧TO y.2:=by
 intro d
 induction d with
 | zero =>
  intro m t hm ht _
  obtain ⟨m,rfl⟩:∃n,m=n+1:=⟨m - 1,by omega⟩
  rw [b6z]
  refine Ok.bind (b3d ht (by omega) (by omega) (by omega)) fun y hy=>?_
  refine Ok.jn (P:=fun j=>1≤j∧j≤8) (Ok.grp (Ok.ite (fun c=>?_) fun c=>Ok.ret ?_)) fun j hj=>?_
  ·simp only [xY,xG] at c
   exact Ok.chk (a1z (by omega) (by omega)) (Ok.ret ⟨by omega,by omega⟩)
  ·simp at c;omega
  ·exact leafs hy.2.2 hj.1 hj.2 (fun _=>gt.lift) (by omega)
 | succ e ih =>
  intro m t hm ht he
  obtain ⟨m,rfl⟩:∃n,m=n+1:=⟨m - 1,by omega⟩
  have e1:((e+1:Nat):Int)+1 - 1=(e:Int)+1:=by omega
  have hrec:∀t,TO t→Ok (b6z m t ((e:Int)+1)) fun y=>gt e y.1∧TO y.2:=fun t h=>ih m t (by omega) h (by omega)
  rw [b6z]
  simp only [e1]
  refine Ok.bind (b3d ht (by omega) (by omega) (by omega)) fun y hy=>?_
  refine Ok.jn (P:=fun j=>1≤j∧j≤11) (Ok.grp (Ok.ite (fun c=>?_) fun c=>Ok.ret ⟨hy.1,hy.2.1⟩)) fun j hj=>?_
  ·exact Ok.chk (a1z (by omega) (by omega)) (Ok.ret ⟨by simp only [xY,xG] at c;omega,by omega⟩)
  ·by_cases c9:j=9
   ·subst c9
    refine Ok.ite (fun f=>by cases f) fun _=>Ok.jn (P:=fun b=>b=false) (Ok.ite (fun f=>by cases f) fun _=>Ok.ret rfl) fun b hb=>?_
    subst hb
    refine Ok.ite (fun f=>by cases f) fun _=>Ok.ite (fun f=>by cases f) fun _=>Ok.ite (fun _=>?_) fun f=>by cases f
    refine Ok.chk (a1z (by omega) (by omega)) (Ok.bind (hrec _ hy.2.2) fun z hz=>Ok.ret ⟨?_,hz.2⟩)
    exact c7n (.inr (.inr (.inr ⟨.inl rfl,rfl,rfl,rfl,.inl ⟨rfl,rfl⟩⟩))) (by simp;exact hz.1) (by simp)
   ·by_cases c10:j=10∨j=11
    ·have n1:decide (j=1)=false:=x4 (by omega)
     have n2:decide (j=2)=false:=x4 (by omega)
     have n3:decide (j=3)=false:=x4 (by omega)
     have n7:decide (j=7)=false:=x4 (by omega)
     have n9:decide (j=9)=false:=x4 c9
     rw [n1,n2,n3,n7,n9]
     refine Ok.ite (fun f=>by cases f) fun _=>Ok.jn (P:=fun b=>b=false) (Ok.ite (fun f=>by cases f) fun _=>Ok.ret rfl) fun b hb=>?_
     subst hb
     refine Ok.ite (fun f=>by cases f) fun _=>Ok.ite (fun f=>by cases f) fun _=>Ok.ite (fun f=>by cases f) fun _=>?_
     refine Ok.jn (P:=fun b=>b=true) (Ok.ite (fun _=>Ok.ret rfl) fun f=>Ok.ret (wK (by have:=of_decide_eq_false f;omega))) fun b hb=>?_
     subst hb
     refine Ok.ite (fun _=>?_) fun f=>by cases f
     refine Ok.bind (b3d hy.2.2 (by omega) (by omega) (by omega)) fun n hn=>?_
     refine Ok.bind (Ok.loop (Q:=fun r:Int×List d9×a06=>r.1=j∧(r.2.1.length:Int)=n.1∧(∀k∈r.2.1,gt e k)∧TO r.2.2) (fun x:Int×Int×List d9×a06=>x.2.1=j∧0≤x.1∧x.1+x.2.2.1.length=n.1∧(∀k∈x.2.2.1,gt e k)∧TO x.2.2.2) (fun x=>x.1.toNat) (fun x hx=>?_) _ ⟨rfl,by omega,by simp,by simp,hn.2.2⟩) fun r hr=>Ok.ret ⟨?_,hr.2.2.2⟩
     ·obtain ⟨a,op,kids,t3⟩:=x
      obtain ⟨h1,h2,h3,h4,h5⟩:=hx
      dsimp only at h1 h2 h3 h4 h5
      subst h1
      refine Ok.ite (fun c=>?_) fun c=>?_
      ·have c:0<a:=of_decide_eq_true c
       refine Ok.chk (a1z (by omega) (by omega)) (Ok.bind (hrec _ h5) fun z hz=>?_)
       refine Ok.chk (a7p (by simp;omega)) (Ok.chk (a1z (by omega) (by omega)) (Ok.ret ⟨⟨rfl,by dsimp only;omega,by dsimp only;simp;omega,fun k hk=>?_,hz.2⟩,by dsimp only;omega⟩))
       rcases wC.1 hk with hk|hk
       ·exact h4 k hk
       ·cases z9.1 hk;exact hz.1
      ·have c:¬0<a:=of_decide_eq_false c
       exact Ok.ret ⟨rfl,by dsimp only;omega,h4,h5⟩
     ·obtain ⟨r1,r2,r3,r4⟩:=hr
      rw [r1]
      exact c7n (.inr (.inr (.inr ⟨.inr c10,rfl,rfl,rfl,.inr ⟨by show j≠9;omega,by show 2≤r.2.1.length;omega⟩⟩))) r3 (by omega)
    ·exact leafs hy.2.2 hj.1 (by omega) (fun _=>gt.lift) (by omega)
where
 leafs {m d:Nat} {t:a06} {j dd:Int} (ht:TO t) (h1:1≤j) (h2:j≤8) (lift:∀x,gt 0 x→gt d x) (hd:0≤dd):Ok (bif decide (j=1) then (F_3 t 4).bind fun y27=>chk (inb y27.1 [[107,105,110,100,48],[107,105,110,100,49],[112,108,97,105,110,48],[110,111,110,101]].length) (some ((d9.mk j ([[107,105,110,100,48],[107,105,110,100,49],[112,108,97,105,110,48],[110,111,110,101]].getD ((y27.1).toNat) default) 0 0 []),y27.2)) else jn (α:=Bool) (bif decide (j=2) then some true else some (decide (j=3))) fun j28=>bif j28 then (F_3 t 6).bind fun y29=>chk (inb y29.1 [[97],[49,58],[102,48],[100,111,99,115,47],[33,105,110],[50]].length) (some ((d9.mk j ([[97],[49,58],[102,48],[100,111,99,115,47],[33,105,110],[50]].getD ((y29.1).toNat) default) 0 0 []),y29.2)) else bif decide (j=7) then (F_3 t 4).bind fun y30=>some ((d9.mk j [] 0 (IntKind.wrap .u64 y30.1) []),y30.2) else bif decide (j=9) then chk (a0c dd) ((b6z m t dd).bind fun y31=>some ((d9.mk j [] 0 0 [y31.1]),y31.2)) else jn (α:=Bool) (bif decide (j=10) then some true else some (decide (j=11))) fun j32=>bif j32 then (F_y t 2 3).bind fun y34=>(loop (fun (x41:Int×Int×(List d9)×a06)=>(bif decide (0<x41.1) then chk (a0c dd) ((b6z m x41.2.2.2 dd).bind fun y45=>chk (room (x41.2.2.1.length+[y45.1].length) 64) (chk (a0c (x41.1 - 1)) (some (.nx ((x41.1 - 1),x41.2.1,(x41.2.2.1++[y45.1]),y45.2))))) else some (.ex (x41.2.1,x41.2.2.1,x41.2.2.2)):Option (Fl (Int×Int×(List d9)×a06) (Int×(List d9)×a06)))) (y34.1,j,[],y34.2)).bind fun r46=>some ((d9.mk r46.1 [] 0 0 r46.2.1),r46.2.2) else (F_3 t 8).bind fun y47=>some ((d9.mk j [] y47.1 0 []),y47.2)) fun y=>gt d y.1∧TO y.2:=by
  refine Ok.ite (fun c=>Ok.bind (a7c ht (by omega)) fun y hy=>Ok.chk (a18.2 ⟨hy.1,hy.2.1⟩) (Ok.ret ⟨lift _ (b7n rfl (.inl ⟨.inl (of_decide_eq_true c),e6o _ (by have:=hy.1;have:=hy.2.1;omega),rfl,rfl,rfl⟩) ⟨by show (0:Int)≤0;omega,by show (0:Int)<_;omega⟩),hy.2.2⟩)) fun c1=>?_
  have c1:=of_decide_eq_false c1
  refine Ok.jn (P:=fun b=>b=decide (j=2∨j=3)) (Ok.ite (fun c=>Ok.ret (wK (.inl (of_decide_eq_true c))).symm) fun c=>Ok.ret ?_) fun b hb=>?_
  ·have c:=of_decide_eq_false c
   exact decide_eq_decide.2 ⟨fun h=>.inr h,fun h=>by omega⟩
  ·subst hb
   refine Ok.ite (fun c=>Ok.bind (a7c ht (by omega)) fun y hy=>Ok.chk (a18.2 ⟨hy.1,hy.2.1⟩) (Ok.ret ⟨lift _ (b7n rfl (.inl ⟨.inr (of_decide_eq_true c),e4m _ (by have:=hy.1;have:=hy.2.1;omega),rfl,rfl,rfl⟩) ⟨by show (0:Int)≤0;omega,by show (0:Int)<_;omega⟩),hy.2.2⟩)) fun c2=>?_
   have c2:=of_decide_eq_false c2
   refine Ok.ite (fun c=>Ok.bind (a7c ht (by omega)) fun y hy=>Ok.ret ⟨lift _ (b7n rfl (.inr (.inr (.inl ⟨of_decide_eq_true c,rfl,rfl,rfl⟩))) (by show 0≤IntKind.wrap .u64 y.1∧IntKind.wrap .u64 y.1<_;rw [wrp hy.1 (by have:=hy.2.1;omega)];have:=hy.1;have:=hy.2.1;exact ⟨by omega,by omega⟩)),hy.2.2⟩) fun c7=>?_
   have c7:=of_decide_eq_false c7
   refine Ok.ite (fun c=>by have:=of_decide_eq_true c;omega) fun _=>?_
   refine Ok.jn (P:=fun b=>b=false) (Ok.ite (fun c=>by have:=of_decide_eq_true c;omega) fun _=>Ok.ret (x4 (by omega))) fun b hb=>?_
   subst hb
   refine Ok.ite (fun f=>by cases f) fun _=>Ok.bind (a7c ht (by omega)) fun y hy=>Ok.ret ⟨lift _ (b7n rfl (.inr (.inl ⟨by show j=4∨j=5∨j=6∨j=8;omega,rfl,hy.1,by have:=hy.2.1;show y.1≤_;omega,rfl,rfl⟩)) ⟨by show (0:Int)≤0;omega,by show (0:Int)<_;omega⟩),hy.2.2⟩
theorem c4k {t:a06} (d:Nat) (hd:d≤2) (h:TO t):Ok (F_0 t ((d:Int)+1)) fun y=>Rgt y.1∧Wf y.1∧y.1.cnt≤13∧y.1.hgt≤3∧TO y.2:=by
 refine Ok.mono (Ok.lim (f:=fun n=>b6z n t ((d:Int)+1)) (fun n=>b6j n t _) (d+1) (d0x d (d+1) t (by omega) h (by omega))) fun y hy=>⟨hy.1.rgt,hy.1.wf,?_,?_,hy.2⟩
 ·have h3:=hy.1.cnt
  have:d=0∨d=1∨d=2:=by omega
  rcases this with rfl|rfl|rfl
  ·have e3:(3:Int)^(0+1)=3:=by decide
   omega
  ·have e3:(3:Int)^(1+1)=9:=by decide
   omega
  ·have e3:(3:Int)^(2+1)=27:=by decide
   omega
 ·have:=hy.1.hgt;omega
theorem c27:∀n (k:Int),Le (c3f n k) (c3f (n+1) k)
 | 0,k=>by rw [c3f];exact Le.non
 | n+1,k=>by
  have ih:=c27 n
  rw [c3f,c3f]
  (repeat' (with_reducible first|exact Le.refl|assumption|exact ih _|(refine Le.bind ?_ fun _=>?_)|(refine Le.chk ?_)|(refine Le.cond ?_ ?_)))
theorem b8n {n:Int} (h0:0≤n) (h1:n<10):F_5 n=some [u8 (48+((u8 n).toNat:Int))]:=by
 refine Ok.eq (Ok.lim (f:=fun m=>c3f m n) (fun m=>c27 m n) 1 ?_)
 rw [c3f]
 exact Ok.ite (fun _=>Ok.ret rfl) fun f=>absurd h1 (of_decide_eq_false f)
theorem b1x {α ρ:Type} {f:α→Option ρ}:∀{l:List α},b0f f l=none↔∀x∈l,f x=none
 | []=>by simp [b0f]
 | a::r=>by
  simp only [b0f]
  cases h:f a with
  | some y=>simp [h]
  | none=>simp [h,b1x (l:=r)]
def b5z (s:Str):Prop:=(∀c∈s,(97≤c.toNat∧c.toNat≤122)∨(48≤c.toNat∧c.toNat≤57)∨c.toNat=45)∧1≤s.length∧s.length≤40
open Classical in
theorem d0v (s:Str):e2x s=some (decide (b5z s)):=by
 refine Ok.eq ?_
 unfold e2x
 refine Ok.bind (Ok.forI (all:=s) (Q:=Fl.elim (fun _=>∀c∈s,(97≤c.toNat∧c.toNat≤122)∨(48≤c.toNat∧c.toNat≤57)∨c.toNat=45) fun r=>r=false∧¬b5z s) (fun pre _=>∀c∈pre,(97≤c.toNat∧c.toNat≤122)∨(48≤c.toNat∧c.toNat≤57)∨c.toNat=45) s [] 0 () rfl rfl (by simp) (fun pre c r _ hw hs=>?_) fun _ hs=>hs) fun o ho=>?_
 ·unfold f7m
  refine Ok.grp (Ok.grp (Ok.grp (Ok.ite (fun c1=>Ok.ret ⟨rfl,fun hq=>?_⟩) fun c1=>Ok.ret ?_)))
  ·have:=hq.1 c (c2c hw)
   simp only [wI,xY,xO,xG,zK] at c1
   omega
  ·simp only [z4,Bool.and_eq_false_iff,Bool.not_eq_false',xG,zK] at c1
   intro d hd
   rcases wC.1 hd with hd|hd
   ·exact hs d hd
   ·cases z9.1 hd
    omega
 ·cases o with
  | ex r =>
   obtain ⟨rfl,h⟩:=ho
   exact Ok.ret (x4 h).symm
  | nx u =>
   refine Ok.grp (Ok.ret ?_)
   rw [wJ]
   simp only [xY,xG]
   exact ⟨fun h=>⟨ho,by omega,by omega⟩,fun h=>⟨by have:=h.2.1;omega,by have:=h.2.2;omega⟩⟩
inductive Lens:d9→Prop
 | mk (x:d9) (h1:x.Text.length≤9223372036854775807) (h2:x.Kids.length≤9223372036854775807) (hk:∀k∈x.Kids,Lens k):Lens x
theorem Lens.kid {x k:d9} (h:Lens x) (hk:k∈x.Kids):Lens k:=by cases h with|mk _ _ _ h=>exact h k hk
open Classical in
def d66 (r:l7):Int:=if ¬b5z r.Name then 4 else if r.When.err≠0 then r.When.err else if r.Verdict≠1∧r.Verdict≠2 then 1 else 0
theorem d2w (r:l7):e1c r=some (d66 r):=by
 classical
 refine Ok.eq ?_
 unfold e1c d66
 rw [d0v,xQ]
 refine Ok.ite (fun c=>Ok.ret (by rw [if_pos (by simpa using c)])) fun c=>?_
 rw [if_neg (by simpa using c),d51,xQ]
 refine Ok.ite (fun c=>Ok.ret (by rw [if_pos (by simpa using c)])) fun c=>?_
 rw [if_neg (by simpa using c)]
 refine Ok.grp (Ok.ite (fun c=>Ok.ret (by rw [if_pos (by simpa using c)])) fun c=>Ok.ret (by rw [if_neg (fun h=>by simp [h.1,h.2] at c)]))
open Classical in
def c5j (r:l7):Option Int:=if d66 r=0 then none else some (d66 r)
def uniq (l:List l7):Prop:=(l.map l7.Name).Nodup
open Classical in
def f09 (l:List l7):Int:=if 40<l.length then 3 else match b0f c5j l with|some e=>e|none=>if uniq l then 0 else 7
theorem b4a {l:List l7} {x:l7}:uniq (l++[x])↔uniq l∧∀o∈l,o.Name≠x.Name:=by
 unfold uniq
 rw [List.map_append,List.nodup_append]
 constructor
 ·rintro ⟨h1,_,h3⟩
  exact ⟨h1,fun o ho=>h3 _ (List.mem_map_of_mem ho) _ (by simp)⟩
 ·rintro ⟨h1,h2⟩
  refine ⟨h1,by simp,fun a ha b hb=>?_⟩
  obtain ⟨o,ho,rfl⟩:=wZ.1 ha
  have:b=x.Name:=by simpa using hb
  subst this
  exact h2 o ho
theorem c1m {a b:List l7} (h:uniq (a++b)):uniq a:=by
 unfold uniq at h ⊢
 rw [List.map_append,List.nodup_append] at h
 exact h.1
open Classical in
theorem valid_eq (l:List l7):d3o l=some (f09 l):=by
 refine Ok.eq ?_
 unfold d3o f09
 refine Ok.ite (fun c=>Ok.ret (by rw [if_pos (by have:=of_decide_eq_true c;omega)])) fun c=>?_
 have c:=of_decide_eq_false c
 rw [if_neg (by omega)]
 have h1:forL e2w l 0 ()=some (flO (b0f c5j l)):=b97 c5j l 0 fun k r _=>by
  unfold e2w
  rw [d2w,xQ]
  unfold c5j
  by_cases e:d66 r=0
  ·rw [if_pos e,e];rfl
  ·rw [if_neg e,x4 e];rfl
 rw [h1,xQ]
 cases b0f c5j l with
 | some e=>exact Ok.ret rfl
 | none =>
  show Ok ((forL (e2t l) l 0 ()).bind _) _
  refine Ok.bind (Ok.forI (all:=l) (Q:=Fl.elim (fun _=>uniq l) fun r=>r=7∧¬uniq l) (fun pre _=>uniq pre) l [] 0 () rfl rfl (by simp [uniq]) (fun pre x r _ hw hs=>?_) fun _ hs=>hs) fun o ho=>?_
  ·unfold e2t
   have ht:l.take ((pre.length:Int)).toNat=pre:=by rw [xN,hw];simp
   rw [ht]
   have hc:e9r pre x=some (decide (∃o∈pre,o.Name=x.Name)) :=
    a8s (body:=f1g x) (fun o:l7=>o.Name=x.Name) pre fun k y _=>by
     by_cases c:y.Name=x.Name<;>simp [f1g,f0u,c]
   rw [hc]
   refine Ok.chk (a7y.2 ⟨by omega,by omega,by have:=e6n hw;omega⟩) ?_
   rw [xQ]
   refine Ok.ite (fun c=>Ok.ret ⟨rfl,fun hu=>?_⟩) fun c=>Ok.ret ?_
   ·obtain ⟨o,ho,e⟩:=of_decide_eq_true c
    rw [hw,show pre++x::r=(pre++[x])++r by simp] at hu
    exact (b4a.1 (c1m hu)).2 o ho e
   ·have c:=of_decide_eq_false c
    exact b4a.2 ⟨hs,fun o ho e=>c ⟨o,ho,e⟩⟩
  ·cases o with
   | nx u =>
    have ho:uniq l:=ho
    exact Ok.ret (by rw [if_pos ho])
   | ex r =>
    obtain ⟨rfl,ho⟩:=ho
    exact Ok.ret (by rw [if_neg ho])
structure g5e (r:l7):Prop where
 n:r.Name.length≤9223372036854775807
 w:Lens r.When
structure VR' (l:List l7):Prop where
 n:l.length≤40
 r:∀r∈l,b5z r.Name∧PV r.When∧(r.Verdict=1∨r.Verdict=2)
 u:uniq l
theorem b8j {r:l7}:d66 r=0↔b5z r.Name∧PV r.When∧(r.Verdict=1∨r.Verdict=2):=by
 classical
 unfold d66
 constructor
 ·intro h
  split at h
  ·omega
  ·split at h
   ·rename_i h2;exact absurd h h2
   ·split at h
    ·omega
    ·rename_i h1 h2 h3
     exact ⟨Classical.byContradiction h1,c2y.1 (Classical.byContradiction h2),by omega⟩
 ·rintro ⟨h1,h2,h3⟩
  rw [if_neg (fun h=>h h1),if_neg (fun h=>h (c2y.2 h2)),if_neg (by omega)]
theorem c5o {l:List l7}:f09 l=0↔VR' l:=by
 classical
 unfold f09
 constructor
 ·intro h
  split at h
  ·omega
  ·rename_i h1
   cases e:b0f c5j l with
   | some v =>
    rw [e] at h
    have h:v=0:=h
    subst h
    exfalso
    have:∀l:List l7,b0f c5j l≠some 0:=by
     intro l
     induction l with
     | nil=>simp [b0f]
     | cons a r ih =>
      simp only [b0f]
      cases g:c5j a with
      | none=>exact ih
      | some v =>
       unfold c5j at g
       split at g
       ·cases g
       ·rename_i g2;cases g;intro h;exact g2 (x5 h)
    exact this l e
   | none =>
    rw [e] at h
    have hall:=b1x.1 e
    refine ⟨by omega,fun r hr=>b8j.1 ?_,?_⟩
    ·have:=hall r hr
     unfold c5j at this
     split at this
     ·assumption
     ·cases this
    ·have h:(if uniq l then (0:Int) else 7)=0:=h
     split at h
     ·assumption
     ·omega
 ·rintro ⟨h1,h2,h3⟩
  rw [if_neg (by omega)]
  have:b0f c5j l=none:=b1x.2 fun r hr=>by unfold c5j;rw [if_pos (b8j.2 (h2 r hr))]
  rw [this]
  exact if_pos h3
theorem e3p {n:Nat} (h:n≤100000000):a1o n=true:=a9r.2 (by omega)
def d4z:List Str:=[[],[107,105,110,100],[112,97,116,104],[101,110,100,115],[115,111,117,114,99,101],[100,101,112,116,104],[108,101,110,103,116,104],[112,114,105,110,116],[98,101,102,111,114,101],[110,111,116],[97,110,100],[111,114]]
def wd (o:Int):Str:=d4z.getD o.toNat default
mutual
def d9.txt:d9→Str
 | ⟨o,t,n,p,k⟩=>if o=1∨o=2∨o=3 then wd o++[32,34]++t++[34] else if o=7 then wd o++[32]++Lib.decDigits p.toNat else if o=9 then [110,111,116,32,40]++(d9.txts k).headD []++[41] else if o=10∨o=11 then [40]++Lib.join (d9.txts k) ([32]++wd o++[32])++[41] else wd o++[32]++Lib.itoa n
def d9.txts:List d9→List Str
 | []=>[]
 | a::r=>d9.txt a::d9.txts r
end
theorem Wf.p0 {x:d9} (h:Wf x):0≤x.Print:=by cases h;assumption
theorem Wf.p1 {x:d9} (h:Wf x):x.Print<18446744073709551616:=by cases h;assumption
theorem Wf.kid {x k:d9} (h:Wf x) (hk:k∈x.Kids):Wf k:=by cases h with|mk _ _ _ h=>exact h k hk
def nm (n:Int):Str:=([114]:Str)++[u8 (48+((u8 n).toNat:Int))]
instance (s:Str):Decidable (b5z s):=inferInstanceAs (Decidable (_∧_))
theorem f5a:∀n:Nat,n<6→b5z (nm n):=by
 intro n hn
 have:n=0∨n=1∨n=2∨n=3∨n=4∨n=5:=by omega
 rcases this with rfl|rfl|rfl|rfl|rfl|rfl<;>decide
theorem e4r:∀n:Nat,n<6→∀m:Nat,m<6→nm n=nm m→n=m:=by decide
structure okR (l:List l7):Prop where
 r:∀r∈l,PV r.When∧Wf r.When∧(r.Verdict=1∨r.Verdict=2)∧∃k:Nat,k<l.length∧r.Name=nm k
 u:uniq l
theorem okR.vr {l:List l7} (h:okR l) (hl:l.length≤6):VR' l:=by
 refine ⟨by omega,fun r hr=>?_,h.u⟩
 obtain ⟨h1,_,h3,k,hk,e⟩:=h.r r hr
 exact ⟨by rw [e];exact f5a k (by omega),h1,h3⟩
theorem okR.snoc {l:List l7} {x:l7} (h:okR l) (hl:l.length<6) (h1:PV x.When) (h2:Wf x.When) (h3:x.Verdict=1∨x.Verdict=2) (h4:x.Name=nm l.length):okR (l++[x]):=by
 refine ⟨fun r hr=>?_,b4a.2 ⟨h.u,fun o ho=>?_⟩⟩
 ·rcases wC.1 hr with hr|hr
  ·obtain ⟨g1,g2,g3,k,hk,e⟩:=h.r r hr
   exact ⟨g1,g2,g3,k,by simp;omega,e⟩
  ·cases z9.1 hr
   exact ⟨h1,h2,h3,l.length,by simp,h4⟩
 ·obtain ⟨_,_,_,k,hk,e⟩:=h.r o ho
  intro e2
  rw [e,h4] at e2
  have:=e4r k (by omega) l.length (by omega) e2
  omega
theorem c3y {t:a06} (ht:TO t) {n:Int} (h0:0≤n) (hn:n≤6):Ok (e9w t n) fun y=>okR y.1∧(y.1.length:Int)=n∧TO y.2:=by
 unfold e9w
 refine Ok.bind (Ok.loop (Q:=fun r:List l7×a06=>okR r.1∧(r.1.length:Int)=n∧TO r.2) (fun x:Int×List l7×a06=>x.1=x.2.1.length∧x.1≤n∧okR x.2.1∧TO x.2.2) (fun x=>(n - x.1).toNat) (fun x hx=>?_) _ ⟨by simp,h0,⟨by simp,by simp [uniq]⟩,ht⟩) fun r hr=>Ok.ret hr
 obtain ⟨i,l,t⟩:=x
 obtain ⟨h1,h2,h3,h4⟩:=hx
 dsimp only at h1 h2 h3 h4
 subst h1
 unfold f7l
 refine Ok.ite (fun c=>?_) fun c=>?_
 ·have c:(l.length:Int)<n:=of_decide_eq_true c
  dsimp only
  rw [b8n (by omega) (by omega),xQ]
  refine Ok.chk (e3p (by simp)) (Ok.bind (c4k 2 (by omega) h4) fun y hy=>Ok.bind (b3d hy.2.2.2.2 (by omega) (by omega) (by omega)) fun z hz=>Ok.chk (a7p (by simp;omega)) (Ok.chk (a1z (by omega) (by omega)) (Ok.ret ⟨⟨by dsimp only;simp,by dsimp only;omega,?_,hz.2.2⟩,by dsimp only;omega⟩)))
  have:=hy.2.2.1;have:=hy.2.2.2.1;have:=hz.1;have:=hz.2.1
  exact h3.snoc (by omega) ⟨by dsimp only;omega,by dsimp only;omega,hy.1⟩ hy.2.1 (by dsimp only;omega) rfl
 ·have c:¬(l.length:Int)<n:=of_decide_eq_false c
  exact Ok.ret ⟨h3,by dsimp only;omega,h4⟩
end
end Go.Ab