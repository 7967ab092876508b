/- The reference's estates are the program's: what is valid. -/
import Derived.Test.YtdmnaloiileofaaGreatDoorPA
import Derived.Test.YtdmnaloiileofaaGreatDoorLN
import Derived.Test.YtdmnaloiileofaaGreatDoorPO
set_option linter.all false
namespace Go.Ab
open Go.Proofs
theorem b7e (n lo hi:Int):F_j n lo hi=some (decide (lo≤n∧n≤hi)):=by simp [F_j,grp]
open Classical in
theorem d3p (a:l5) (x:o7) (h1:1≤a.Places) (h2:a.Places≤16):f5u a x=some (decide (xok a.Places x)):=by
 have hin:∀o:Option Bool,chk (a0w (a.Places - 1)) o=o:=fun o=>p8 (z8 (n:=a.Places - 1) (by omega) (by omega))
 obtain ⟨T,K,P,pr,U,C,F⟩:=x
 simp only [f5u,b7e,xX,jn,grp,hin,decide_true,Bool.true_and]
 by_cases t1:0≤T∧T≤1099511627776
 ·by_cases t2:0≤P∧P≤a.Places - 1
  ·simp only [t1,t2,and_self,decide_true,w4,vM]
   by_cases k1:K=1
   ·subst k1
    by_cases c1:U=0<;>by_cases c2:C=0<;>by_cases c3:F=0<;>simp [xok,c1,c2,c3,t1,t2]
   by_cases k2:K=2
   ·subst k2
    by_cases c1:U=0<;>by_cases c2:C=0<;>by_cases c3:F=0<;>simp [xok,c1,c2,c3,t1,t2]
   by_cases k3:K=3
   ·subst k3
    by_cases c1:pr=0<;>by_cases c2:C=0<;>by_cases c3:F=0<;>by_cases c4:T<U<;>simp [xok,c1,c2,c3,c4,t1,t2]
   by_cases k4:K=4
   ·subst k4
    by_cases c1:pr=0<;>by_cases c2:C=0<;>by_cases c3:F=0<;>by_cases c4:U=0<;>simp [xok,c1,c2,c3,c4,t1,t2]
   by_cases k5:K=5
   ·subst k5
    by_cases c1:pr=0<;>by_cases c2:U=0<;>by_cases c3:F=0<;>simp [xok,c1,c2,c3,t1,t2]
   by_cases k6:K=6
   ·subst k6
    by_cases c1:pr=0<;>by_cases c2:U=0<;>by_cases c3:F=0<;>simp [xok,c1,c2,c3,t1,t2]
   by_cases k7:K=7
   ·subst k7
    by_cases c1:pr=0<;>by_cases c2:U=0<;>by_cases c3:C=0<;>by_cases c4:F=P<;>simp [xok,c1,c2,c3,c4,t1,t2]<;>omega
   ·simp [xok,k1,k2,k3,k4,k5,k6,k7,t1,t2]
  ·have:¬xok a.Places ⟨T,K,P,pr,U,C,F⟩:=fun h=>t2 ⟨h.2.2.1,h.2.2.2.1⟩
   simp [t1,t2,this]
 ·have:¬xok a.Places ⟨T,K,P,pr,U,C,F⟩:=fun h=>t1 ⟨h.1,h.2.1⟩
  simp [t1,this]
open Classical in
theorem b8d (a:l5) (h1:1≤a.Places) (h2:a.Places≤16) (hn:a.Events.length≤120):∀(l:List o7) (k:Nat) (last:Int),a.Events.drop k=l→(0<k→(a.Events.getD (k - 1) default).Time=last)→(k=0→last=0)→k≤a.Events.length →
  forL (f8z a) l (k:Int) ()=some (if chain a.Places last l then .nx () else .ex false)
 | [],k,last,hd,hl,h0,hk=>by simp [forL,chain]
 | x :: r,k,last,hd,hl,h0,hk=>by
  have hlt:k<a.Events.length:=by
   rcases Nat.lt_or_ge k a.Events.length with h|h
   ·exact h
   ·rw [List.drop_eq_nil_of_le h] at hd;cases hd
  rw [List.drop_eq_getElem_cons hlt] at hd
  obtain ⟨e1,e2⟩:=List.cons.inj hd
  have hx:(a.Events.getD (k+1 - 1) default)=x:=by rw [Nat.add_sub_cancel,zE,zJ hlt];exact e1
  have ih:=fun last h=>b8d a h1 h2 hn r (k+1) last e2 h (by omega) hlt
  simp only [forL,f8z,d3p a x h1 h2,xX,chain]
  by_cases c:xok a.Places x
  ·simp only [c,decide_true,w4,vM,true_and]
   have ih':=ih x.Time (fun _=>by rw [hx])
   rw [show ((k+1:Nat):Int)=(k:Int)+1 by simp] at ih'
   by_cases ck:0<k
   ·have e3:decide (0<(k:Int))=true:=wT (by omega)
    have e4:a0w ((k:Int) - 1)=true:=z8 (by omega) (by omega)
    have e5:inb ((k:Int) - 1) a.Events.length=true:=u6.2 ⟨by omega,by omega⟩
    have e6:((k:Int) - 1).toNat=k - 1:=by omega
    simp only [e3,vO,p8 e4,p8 e5,e6,hl ck]
    by_cases c3:x.Time<last
    ·have:¬last≤x.Time:=by omega
     simp [c3,this,a6p]
    ·have:last≤x.Time:=by omega
     simp [c3,this,a6o,ih']
   ·have e3:decide (0<(k:Int))=false:=wG (by omega)
    have hk0:k=0:=by omega
    have:last≤x.Time:=by rw [h0 hk0];exact c.1
    simp only [e3,vM,xX,a6o,this,true_and,ih']
  ·simp [c,a6p]
open Classical in
theorem valid_eq (a:l5):F_k a=some (decide (Good a)):=by
 simp only [F_k,b7e,xX,grp]
 by_cases c:1≤a.Places∧a.Places≤16
 ·by_cases c2:a.Events.length≤120
  ·have c':(!decide (1≤a.Places∧a.Places≤16)||decide (120<(a.Events.length:Int)))=false:=by simp [c];omega
   have h:=b8d a c.1 c.2 c2 a.Events 0 0 rfl (fun h=>by omega) (fun _=>rfl) (by omega)
   simp only [show ((0:Nat):Int)=0 from rfl] at h
   simp only [c',vM,h,xX]
   by_cases hc:chain a.Places 0 a.Events
   ·have:Good a:=(b3i a).2 ⟨c,c2,hc⟩
    simp [this,hc,a6o]
   ·have:¬Good a:=fun h=>hc ((b3i a).1 h).2.2
    simp [this,hc,a6p]
  ·have c':(!decide (1≤a.Places∧a.Places≤16)||decide (120<(a.Events.length:Int)))=true:=by simp;omega
   have:¬Good a:=fun h=>c2 h.len
   simp only [c',vO,this,decide_false]
 ·have:¬Good a:=fun h=>c ⟨h.lo,h.hi⟩
  simp [c,this]
open Classical in
theorem a9w (a:l5) (p:Int):e1d a p=F_1 a p:=by
 rw [b3g]
 simp only [e1d,valid_eq,xX,jn]
 by_cases h:Good a
 ·have:=h.lo;have:=h.hi
  simp [h,b7e,p8 (z8 (n:=a.Places - 1) (by omega) (by omega))]
 ·simp [h]
theorem b4i (a:l5) (p:Int):(F_1 a p=some true∧Good a∧0≤p∧p≤a.Places - 1)∨F_1 a p=some false:=by
 classical
 rw [b3g]
 by_cases h:Good a∧0≤p∧p≤a.Places - 1
 ·left;exact ⟨congrArg some (wT h),h⟩
 ·right;exact congrArg some (wG h)
theorem b0t {β:Type} (q k:Int) (v:β):∀m:List (Int×β),a7p q (a9f k v m)=if q=k then some v else a7p q m
 | []=>by by_cases e:q=k<;>simp [a9f,a7p,e]
 | (a,b)::r=>by
  by_cases e:k=a
  ·subst e
   by_cases e2:q=k<;>simp [a9f,a7p,e2]
  ·simp only [a9f,if_neg e,a7p,b0t q k v r]
   by_cases e2:q=a
   ·subst e2
    have:¬q=k:=fun h=>e h.symm
    simp [this]
   ·simp [e2]
theorem b1y {β:Type} {q:Int}:∀{m:List (Int×β)},q∉m.map Prod.fst→a7p q m=none
 | [],h=>rfl
 | (a,b)::r,h=>by
  simp only [wZ,wY,not_or] at h
  simp only [a7p,if_neg h.1,b1y h.2]
theorem c05 {β:Type} {q:Int}:∀{m:List (Int×β)},q∈m.map Prod.fst→∃v,a7p q m=some v
 | (a,b)::r,h=>by
  by_cases e:q=a
  ·exact ⟨b,by simp [a7p,e]⟩
  ·have:q∈r.map Prod.fst:=by simpa [e] using h
   obtain ⟨v,hv⟩:=c05 this
   exact ⟨v,by simp [a7p,e,hv]⟩
theorem c2a {β:Type} (q:Int) (m:List (Int×β)):(a7p q m).isSome=decide (q∈m.map Prod.fst):=by
 by_cases h:q∈m.map Prod.fst
 ·obtain ⟨v,hv⟩:=c05 h
  rw [hv];exact (wT h).symm
 ·rw [b1y h];exact (wG h).symm
theorem b0u {β:Type} (q k:Int):∀m:List (Int×β),(m.map Prod.fst).Nodup→a7p q (c07 k m)=if q=k then none else a7p q m
 | [],h=>by simp [c07,a7p]
 | (a,b)::r,h=>by
  simp only [wZ,List.nodup_cons] at h
  by_cases e:k=a
  ·subst e
   by_cases e2:q=k
   ·subst e2
    simp only [c07,if_true]
    exact b1y h.1
   ·simp [c07,a7p,e2]
  ·simp only [c07,if_neg e,a7p,b0u q k r h.2]
   by_cases e2:q=a
   ·subst e2
    have:¬q=k:=fun h=>e h.symm
    simp [this]
   ·simp [e2]
theorem b4p (p t:Int) (l:List o7):((grf p t l).map Prod.fst).Nodup:=by rw [b7s];exact b4j p t l
theorem c3k (p t:Int) (l:List o7) (x:o7):grf p t (l++[x])=gst p t l.length x (grf p t l):=by
 simp only [grf,a7z,b0e,Int.zero_add]
def told (p t q:Int) (l:List o7) (n:Nat):Prop :=
 n<l.length∧(l.getD n default).Kind=1∧(l.getD n default).Place=p∧(l.getD n default).Principal=q∧(l.getD n default).Time≤t∧∀y∈l.drop (n+1),¬(y.Kind=2∧y.Place=p∧y.Principal=q∧y.Time≤t)
theorem a9o {p t q:Int} {l:List o7} {n:Nat} {x:o7} (h:told p t q l n) (hx:¬(x.Kind=2∧x.Place=p∧x.Principal=q∧x.Time≤t)):told p t q (l++[x]) n:=by
 obtain ⟨h1,h2,h3,h4,h5,h6⟩:=h
 have e:(l++[x]).getD n default=l.getD n default:=by rw [zE,zE,zH h1]
 refine ⟨by simp;omega,by rw [e];exact h2,by rw [e];exact h3,by rw [e];exact h4,by rw [e];exact h5,fun y hy=>?_⟩
 rw [List.drop_append_of_le_length (by omega),wL,xF] at hy
 rcases hy with hy|rfl
 ·exact h6 y hy
 ·exact hx
theorem c5d (p t q:Int) (l:List o7) (k:Int) (h:a7p q (grf p t l)=some k):∃n:Nat,k=n∧told p t q l n:=by
 induction l using a2r generalizing k with
 | h0=>cases h
 | h1 l x ih =>
  rw [c3k] at h
  unfold gst at h
  split at h
  ·rename_i c
   obtain ⟨n,e,hn⟩:=ih k h
   exact ⟨n,e,a9o hn (by omega)⟩
  ·rename_i c
   split at h
   ·rename_i c2
    rw [b0t] at h
    split at h
    ·rename_i c3
     cases h
     refine ⟨l.length,rfl,by simp,?_⟩
     have e:(l++[x]).getD l.length default=x:=by simp
     rw [e]
     refine ⟨c2,by omega,c3.symm,by omega,fun y hy=>?_⟩
     rw [List.drop_eq_nil_of_le (by simp)] at hy
     cases hy
    ·obtain ⟨n,e,hn⟩:=ih k h
     exact ⟨n,e,a9o hn (by omega)⟩
   ·split at h
    ·rw [b0u _ _ _ (b4p p t l)] at h
     split at h
     ·cases h
     ·rename_i c3
      obtain ⟨n,e,hn⟩:=ih k h
      exact ⟨n,e,a9o hn fun hh=>c3 hh.2.2.1.symm⟩
    ·obtain ⟨n,e,hn⟩:=ih k h
     exact ⟨n,e,a9o hn (by omega)⟩
open Classical in
theorem b68 {d:d9} (g:a2t d) (p:Int):e2x d p=some (decide (rdr d p)):=by
 have hk:=g.kl
 have hx:F_h d p=some (decide (0≤p∧p<d.Kinds.length)):=by
  unfold F_h
  rw [p8 (a5q (by omega) (by omega))]
  simp only [d0o,grp,xX]
  congr 1
  by_cases q:0≤p∧p<(d.Kinds.length:Int)
  ·rw [wT q,wT q.1,wT (show p≤(d.Kinds.length:Int) - 1 by omega)];rfl
  ·rw [wG q]
   by_cases q1:0≤p
   ·rw [wT q1,wG (show ¬p≤(d.Kinds.length:Int) - 1 by omega)];rfl
   ·rw [wG q1];rfl
 unfold e2x
 simp only [hx,xX,jn]
 by_cases q:0≤p∧p<(d.Kinds.length:Int)
 ·simp only [wT q,vO,p8 (u6.2 q),xX]
  by_cases w:d.Kinds.getD p.toNat default=2
  ·have:¬rdr d p:=fun h=>h.2.2 w
   rw [wT w,wG this];rfl
  ·have:rdr d p:=⟨q.1,q.2,w⟩
   rw [wG w,wT this];rfl
 ·have:¬rdr d p:=fun h=>q ⟨h.1,h.2.1⟩
  simp [wG q,this]
def e5c (p q t:Int) (i:Int) (x:o7) (s:Int):Int :=
 if t<x.Time∨x.Place≠p∨x.Principal≠q then s else if x.Kind=1 then i else if x.Kind=2 then -1 else s
theorem c7a (p q t k:Int) (x:o7) (s:Int):f8w p q t k x s=some (e5c p q t k x s):=by
 simp only [f8w,grp,e5c]
 by_cases c:t<x.Time∨x.Place≠p∨x.Principal≠q
 ·have c':(decide (t<x.Time)||!decide (x.Place=p)||!decide (x.Principal=q))=true:=by
   simp only [wR,xM,xV,zK];omega
  simp only [c',vO,if_pos c]
 ·have c':(decide (t<x.Time)||!decide (x.Place=p)||!decide (x.Principal=q))=false:=by
   simp only [xB,zK,Bool.not_eq_false',xM];omega
  simp only [c',vM,if_neg c]
  by_cases c2:x.Kind=1
  ·simp [c2]
  ·by_cases c3:x.Kind=2<;>simp [c2,c3]
theorem c0w (p q t:Int) (l:List o7):b0e (e5c p q t) l 0 (-1)=(a7p q (grf p t l)).getD (-1):=by
 induction l using a2r with
 | h0=>rfl
 | h1 l x ih =>
  rw [a7z,c3k]
  simp only [b0e,Int.zero_add,ih,e5c,gst]
  by_cases c:t<x.Time∨x.Place≠p
  ·rw [if_pos (by omega),if_pos c]
  ·rw [if_neg c]
   by_cases cq:x.Principal=q
   ·rw [if_neg (by omega)]
    by_cases c2:x.Kind=1
    ·rw [if_pos c2,if_pos c2,b0t,if_pos cq.symm];rfl
    ·rw [if_neg c2,if_neg c2]
     by_cases c3:x.Kind=2
     ·rw [if_pos c3,if_pos c3,b0u _ _ _ (b4p p t l),if_pos cq.symm];rfl
     ·rw [if_neg c3,if_neg c3]
   ·have cq':¬q=x.Principal:=fun h=>cq h.symm
    rw [if_pos (by omega)]
    by_cases c2:x.Kind=1
    ·rw [if_pos c2,b0t,if_neg cq']
    ·rw [if_neg c2]
     by_cases c3:x.Kind=2
     ·rw [if_pos c3,b0u _ _ _ (b4p p t l),if_neg cq']
     ·rw [if_neg c3]
theorem c4t (a:l5) (p q t:Int):f5a a p q t=some ((a7p q (grf p t a.Events)).getD (-1)):=by
 simp only [f5a,a9e (e5c p q t) (c7a p q t),xX,c0w]
theorem c29 {p t q k:Int} {l:List o7} (h:a7p q (grf p t l)=some k):0≤k:=by
 obtain ⟨n,rfl,_⟩:=c5d p t q l k h;omega
theorem a8z (n:Nat):((List.range n).map fun i:Nat=>(i:Int)).Pairwise fun x y=>x<y:=by
 rw [List.pairwise_map]
 exact List.pairwise_lt_range.imp fun h=>by omega
theorem b3w (a:l5) (p t:Int):e3o a p t=F_3 a p t:=by
 simp only [e3o,a9w]
 rcases b4i a p with ⟨h,g,_⟩|h
 ·rw [b1s t g.len h,h]
  simp only [xX,w4,vM]
  have key:∀q:Int,decide (0≤(a7p q (grf p t a.Events)).getD (-1))=decide (q∈a3x p t a.Events):=fun q=>by
   have e:(a7p q (grf p t a.Events)).isSome=decide (q∈a3x p t a.Events):=by rw [c2a,b7s]
   rw [←e]
   cases ha:a7p q (grf p t a.Events) with
   | none=>rfl
   | some k=>simpa using c29 ha
  refine Ok.eq (Ok.bind (Ok.loop (Q:=fun r=>r=c63 (a3x p t a.Events)) (fun x=>0≤x.1∧x.1≤24∧x.2=((List.range x.1.toNat).map fun i:Nat=>(i:Int)).filter fun q=>decide (q∈a3x p t a.Events)) (fun x=>(24 - x.1).toNat) (fun x hx=>?_) _ ⟨by omega,by omega,rfl⟩) fun r hr=>Ok.ret hr)
  obtain ⟨i,out⟩:=x
  obtain ⟨h1,h2,h3⟩:=hx
  simp only at h1 h2 h3
  subst h3
  have hl:=List.length_filter_le (fun q=>decide (q∈a3x p t a.Events)) ((List.range i.toNat).map fun i:Nat=>(i:Int))
  simp only [wN,List.length_range] at hl
  unfold g51
  refine Ok.ite (fun c=>?_) fun c=>?_
  ·have c:i<24:=by simpa using c
   rw [c4t]
   simp only [xX,key]
   have e1:(i+1).toNat=i.toNat+1:=by omega
   refine Ok.jn (P:=fun j=>j=((List.range (i+1).toNat).map fun i:Nat=>(i:Int)).filter fun q=>decide (q∈a3x p t a.Events)) (Ok.ite (fun cc=>Ok.chk (a0p (by simp only [zV];omega)) (Ok.ret ?_)) fun cc=>Ok.ret ?_) fun j hj=>?_
   ·rw [e1,List.range_succ,List.map_append,List.filter_append]
    have e2:((i.toNat:Nat):Int)=i:=by omega
    simp only [wZ,vF,e2,List.filter_cons,cc,if_true,List.filter_nil]
   ·rw [e1,List.range_succ,List.map_append,List.filter_append]
    have e2:((i.toNat:Nat):Int)=i:=by omega
    simp [e2,cc]
   ·refine Ok.chk (z8 (by omega) (by omega)) (Ok.ret ?_)
    exact ⟨⟨by show 0≤i+1;omega,by show i+1≤24;omega,hj⟩,by show (24 - (i+1)).toNat<(24 - i).toNat;omega⟩
  ·have c:¬i<24:=by simpa using c
   have:i=24:=by omega
   subst this
   refine Ok.ret ?_
   show _=_
   have hsr:(((List.range (Int.toNat 24)).map fun i:Nat=>(i:Int)).filter fun q=>decide (q∈a3x p t a.Events)).Pairwise (fun x y=>x≤y):=List.Pairwise.filter _ ((a8z 24).imp fun h=>vG h)
   refine a9q ?_ hsr (a6r _)
   refine List.Perm.trans ?_ (a9p _).symm
   refine (List.perm_ext_iff_of_nodup ?_ (b4j p t a.Events)).2 fun q=>?_
   ·exact List.Pairwise.filter _ ((a8z 24).imp fun h=>Int.ne_of_lt h)
   ·simp only [wK,vE,List.mem_range,xM]
    constructor
    ·rintro ⟨_,h⟩;exact h
    ·intro hq
     refine ⟨?_,hq⟩
     obtain ⟨w,hw,hw1,hw2,_⟩:=c8g hq
     have:=(g.ev w hw).2.2.2.2
     exact ⟨q.toNat,by show q.toNat<(24:Int).toNat;omega,by omega⟩
 ·simp [h,F_3]
def unl (p t:Int) (y:o7):Prop:=y.Kind=4∧y.Place=p∧y.Time≤t
def lnk (p t:Int) (x:o7):Prop:=x.Kind=3∧x.Place=p∧x.Time≤t∧t<x.Until
def b03 (p t:Int) (l:List o7) (k:Nat):Prop:=lnk p t (l.getD k default)∧∀y∈l.drop (k+1),¬unl p t y
open Classical in
noncomputable def c7i (p t:Int) (l:List o7):Nat→Int×Bool
 | 0=>(0,false)
 | n+1=>if b03 p t l n then ((n:Int),true) else c7i p t l n
theorem b6e {p t:Int} {l:List o7} {x:o7} {k:Nat} (hk:k<l.length):b03 p t (l++[x]) k↔b03 p t l k∧¬unl p t x:=by
 unfold b03
 rw [show (l++[x]).getD k default=l.getD k default by rw [zE,zE,zH hk],List.drop_append_of_le_length (by omega)]
 simp only [wL,xF]
 constructor
 ·rintro ⟨h1,h2⟩
  exact ⟨⟨h1,fun y hy=>h2 y (.inl hy)⟩,h2 x (.inr rfl)⟩
 ·rintro ⟨⟨h1,h2⟩,h3⟩
  refine ⟨h1,fun y hy=>?_⟩
  rcases hy with hy|rfl
  ·exact h2 y hy
  ·exact h3
theorem b8o {p t:Int} {l:List o7} {x:o7}:∀{n:Nat},n≤l.length→(unl p t x→c7i p t (l++[x]) n=(0,false))∧(¬unl p t x→c7i p t (l++[x]) n=c7i p t l n)
 | 0,h=>⟨fun _=>rfl,fun _=>rfl⟩
 | n+1,h=>by
  have ih:=b8o (p:=p) (t:=t) (l:=l) (x:=x) (n:=n) (by omega)
  constructor
  ·intro hu
   have:¬b03 p t (l++[x]) n:=fun h'=>((b6e (by omega)).1 h').2 hu
   simp only [c7i,if_neg this,ih.1 hu]
  ·intro hu
   have:b03 p t (l++[x]) n↔b03 p t l n:=by rw [b6e (by omega)];exact ⟨fun h=>h.1,fun h=>⟨h,hu⟩⟩
   by_cases hh:b03 p t l n
   ·simp only [c7i,if_pos (this.2 hh),if_pos hh]
   ·simp only [c7i,if_neg (fun h=>hh (this.1 h)),if_neg hh,ih.2 hu]
theorem d1l (p t:Int) (l:List o7):c7i p t l l.length=lkf p t l 0 (0,false):=by
 induction l using a2r with
 | h0=>rfl
 | h1 l x ih =>
  rw [xH,zV,b1o]
  simp only [lkf,Int.zero_add,c7i]
  have e:(l++[x]).getD l.length default=x:=by simp
  have ho:b03 p t (l++[x]) l.length↔lnk p t x:=by
   unfold b03
   rw [e,List.drop_eq_nil_of_le (by simp)]
   simp
  rw [←ih]
  have hs:=b8o (p:=p) (t:=t) (l:=l) (x:=x) (vJ l.length)
  unfold lst
  by_cases hl:lnk p t x
  ·rw [if_pos (ho.2 hl)]
   obtain ⟨h1,h2,h3,h4⟩:=hl
   rw [if_neg (by omega),if_neg (by omega),if_pos ⟨h1,h4⟩]
  ·rw [if_neg fun h=>hl (ho.1 h)]
   by_cases hu:unl p t x
   ·rw [hs.1 hu]
    obtain ⟨h1,h2,h3⟩:=hu
    rw [if_neg (by omega),if_pos h1]
   ·rw [hs.2 hu]
    by_cases c:t<x.Time∨x.Place≠p
    ·rw [if_pos c]
    ·rw [if_neg c]
     have:¬x.Kind=4:=fun h=>hu ⟨h,by omega,by omega⟩
     rw [if_neg this]
     have:¬(x.Kind=3∧t<x.Until):=fun h=>hl ⟨h.1,by omega,by omega,h.2⟩
     rw [if_neg this]
open Classical in
theorem f0k (p t:Int):∀m:List o7,a5c (fun y=>if unl p t y then some false else none) m=if ∀y∈m,¬unl p t y then none else some false
 | []=>by simp [a5c]
 | y :: r=>by
  by_cases hu:unl p t y
  ·have:¬∀z∈y::r,¬unl p t z:=fun h=>h y (by simp) hu
   rw [if_neg this]
   simp only [a5c,if_pos hu]
  ·simp only [a5c,if_neg hu,f0k p t r]
   by_cases hr:∀z∈r,¬unl p t z
   ·have:∀z∈y::r,¬unl p t z:=fun z hz=>by
     rcases wY.1 hz with rfl|hz
     ·exact hu
     ·exact hr z hz
    rw [if_pos hr,if_pos this]
   ·have:¬∀z∈y::r,¬unl p t z:=fun h=>hr fun z hz=>h z (by simp [hz])
    rw [if_neg hr,if_neg this]
open Classical in
theorem d7p {a:l5} {p t:Int} (hn:a.Events.length≤120) (h:F_1 a p=some true) {k:Nat} (hk:k<a.Events.length):∃b,e1p a p (k:Int) t=some b∧(b=true↔b03 p t a.Events k):=by
 have i1:a0w ((a.Events.length:Int) - 1)=true:=z8 (by omega) (by omega)
 have i2:decide (0≤(k:Int)∧(k:Int)≤(a.Events.length:Int) - 1)=true:=wT (by omega)
 have i3:inb (k:Int) a.Events.length=true:=u6.2 ⟨by omega,by omega⟩
 have i4:a0w ((k:Int)+1)=true:=z8 (by omega) (by omega)
 have i5:inc ((k:Int)+1) (a.Events.length:Int) a.Events.length=true:=a5v.2 ⟨by omega,by omega,by omega⟩
 have i6:((k:Int)+1).toNat=k+1:=by omega
 simp only [e1p,a9w,h,xX,w4,vM,p8 i1,b7e,i2,p8 i3,p8 i4,p8 i5,i6,xU,grp]
 by_cases c1:lnk p t (a.Events.getD k default)
 ·have c1':=c1
  unfold lnk at c1'
  have e:(!decide ((a.Events.getD k default).Kind=3)||!decide ((a.Events.getD k default).Place=p)||decide (t<(a.Events.getD k default).Time)||decide ((a.Events.getD k default).Until≤t))=false:=by
   simp only [xB,zK,Bool.not_eq_false',xM];omega
  simp only [e,vM]
  rw [a1c (fun y=>if unl p t y then some false else none) (a.Events.drop (k+1)) 0 fun k y _=>by
   simp only [g52,grp]
   by_cases hu:unl p t y
   ·have e:(decide (y.Kind=4)&&decide (y.Place=p)&&decide (y.Time≤t))=true:=by
     simp only [wE,xM];exact ⟨⟨hu.1,hu.2.1⟩,hu.2.2⟩
    simp only [e,vO,if_pos hu,flO]
   ·have e:(decide (y.Kind=4)&&decide (y.Place=p)&&decide (y.Time≤t))=false:=by
     cases hh:(decide (y.Kind=4)&&decide (y.Place=p)&&decide (y.Time≤t)) with
     | false=>rfl
     | true =>
      simp only [wE,xM] at hh
      exact absurd ⟨hh.1.1,hh.1.2,hh.2⟩ hu
    simp only [e,vM,if_neg hu,flO]]
  simp only [xX,a3t,f0k]
  by_cases hr:∀y∈a.Events.drop (k+1),¬unl p t y
  ·simp only [if_pos hr]
   exact ⟨true,rfl,fun _=>⟨c1,hr⟩,fun _=>rfl⟩
  ·simp only [if_neg hr]
   exact ⟨false,rfl,iff_of_false (by simp) fun h=>hr h.2⟩
 ·have e:(!decide ((a.Events.getD k default).Kind=3)||!decide ((a.Events.getD k default).Place=p)||decide (t<(a.Events.getD k default).Time)||decide ((a.Events.getD k default).Until≤t))=true:=by
   unfold lnk at c1
   simp only [wR,xM,xV,zK];omega
  simp only [e,vO]
  exact ⟨false,rfl,iff_of_false (by simp) fun h=>c1 h.1⟩
open Classical in
theorem d7q {a:l5} {p t:Int} (hn:a.Events.length≤120) (h:F_1 a p=some true) {k:Nat} (hk:k<a.Events.length):e1p a p (k:Int) t=some (decide (b03 p t a.Events k)):=by
 obtain ⟨b,hb,hb2⟩:=d7p (t:=t) hn h hk
 rw [hb]
 by_cases c:b03 p t a.Events k
 ·rw [hb2.2 c,wT c]
 ·have:b=false:=by cases b with
   | false=>rfl
   | true=>exact absurd (hb2.1 rfl) c
  rw [this,wG c]
theorem c2x {a:l5} {p t:Int} (hn:a.Events.length≤120) (h:F_1 a p=some true):∀{n:Nat},n≤a.Events.length→∃r,loop (e1n a p t) ((n:Int) - 1)=some r∧Sum.elim (fun _=>some (0,false)) (fun u=>some u) r=some (c7i p t a.Events n)
 | 0,hl=>by
  rw [b49]
  simp only [e1n]
  exact ⟨.inl (),rfl,rfl⟩
 | n+1,hl=>by
  classical
  rw [b49]
  have e0:((n+1:Nat):Int) - 1=(n:Int):=by omega
  have e1:decide (0≤(n:Int))=true:=wT (by omega)
  rw [e0]
  simp only [e1n,e1,vO,d7q hn h (show n<a.Events.length by omega),xX,c7i]
  by_cases c:b03 p t a.Events n
  ·simp only [c,decide_true,vO,xX,a6p,if_true]
   exact ⟨_,rfl,rfl⟩
  ·have i1:a0w ((n:Int) - 1)=true:=z8 (by omega) (by omega)
   simp only [c,decide_false,vM,p8 i1,xX,a6o,if_false]
   exact c2x hn h (by omega)
theorem c2w {a:l5} {p t:Int} (hn:a.Events.length≤120) (h:F_1 a p=some false):∀{n:Nat},n≤a.Events.length→loop (e1n a p t) ((n:Int) - 1)=some (.inl ())
 | 0,hl=>by
  rw [b49]
  rfl
 | n+1,hl=>by
  rw [b49]
  have e0:((n+1:Nat):Int) - 1=(n:Int):=by omega
  have e1:decide (0≤(n:Int))=true:=wT (by omega)
  have i1:a0w ((n:Int) - 1)=true:=z8 (by omega) (by omega)
  rw [e0]
  simp only [e1n,e1,vO,e1p,a9w,h,xX,wV,vM,p8 i1,a6o]
  exact c2w hn h (by omega)
theorem b6a (a:l5) (p t:Int) (hn:a.Events.length≤120):e3i a p t=F_2 a p t:=by
 have i1:a0w ((a.Events.length:Int) - 1)=true:=z8 (by omega) (by omega)
 simp only [e3i,p8 i1]
 rcases b4i a p with ⟨h,_⟩|h
 ·rw [a7w t h,←d1l]
  obtain ⟨r,h1,h2⟩:=c2x (t:=t) hn h (vJ _)
  rw [h1]
  exact h2
 ·rw [c8a t h,c2w hn h (vJ _)]
  rfl
theorem b1f {d:d9} (hk:d.Kinds.length≤24) (p:Int):F_h d p=some (decide (0≤p∧p<d.Kinds.length)):=by
 unfold F_h
 rw [p8 (a5q (by omega) (by omega))]
 simp only [d0o,grp,xX]
 congr 1
 by_cases q:0≤p∧p<(d.Kinds.length:Int)
 ·rw [wT q,wT q.1,wT (show p≤(d.Kinds.length:Int) - 1 by omega)];rfl
 ·rw [wG q]
  by_cases q1:0≤p
  ·rw [wT q1,wG (show ¬p≤(d.Kinds.length:Int) - 1 by omega)];rfl
  ·rw [wG q1];rfl
theorem a8a {d:d9} (g:a2t d):F_i d=some true:=by
 have hk:=g.kl
 have he:=g.el
 have hin:∀x a b:Int,d0o x a b=some (decide (a≤x∧x≤b)):=fun x a b=>by simp [d0o,grp]
 refine Ok.eq ?_
 unfold F_i
 refine Ok.grp (Ok.ite (fun q=>?_) fun _=>Ok.bind (P:=fun o=>o=.nx ()) (Ok.for (fun _=>True) _ 0 () trivial (fun k x s hx _=>?_) fun s _=>rfl) fun o ho=>?_)
 ·simp only [wR,xM] at q;omega
 ·unfold g63
  rw [hin,wT (g.kd x hx)]
  exact Ok.ret trivial
 subst ho
 rw [a6o]
 refine Ok.bind (P:=fun o=>o=.nx ()) (Ok.forI (all:=d.Events) (fun _ _=>True) _ [] 0 () rfl rfl trivial (fun pre x r s hw _=>?_) fun s _=>rfl) fun o ho=>by subst ho;exact Ok.ret rfl
 have hx:x∈d.Events:=by rw [hw];simp
 obtain ⟨m1,m2,m3,m4,m5,m6⟩:=g.ev x hx
 have hgr:e1f d x.Group=some true:=by
  unfold e1f
  rw [b1f hk,wT (show 0≤x.Group∧x.Group<(d.Kinds.length:Int) from ⟨m5.1,m5.2.1⟩)]
  simp only [xX,vO,jn,p8 (u6.2 ⟨m5.1,m5.2.1⟩),wT m5.2.2]
 have hp:pre.length<d.Events.length:=by rw [hw];simp
 have rest:Ok ((F_h d x.Principal).bind fun y251=>bif (!y251) then some (.ex false) else (e1f d x.Group).bind fun y252=>bif (!y252) then some (.ex false) else bif decide (x.Principal=x.Group) then some (.ex false) else some (.nx ())) (Fl.elim (fun _:Unit=>True) fun r:Bool=>(Fl.ex r:Fl Unit Bool)=.nx ()):=by
  rw [b1f hk,wT m4,hgr]
  simp only [xX,w4,vM,wG m6]
  exact Ok.ret trivial
 unfold g56
 rw [hin,hin,wT (show 1≤x.Kind∧x.Kind≤2 by omega),wT (show 0≤x.Time∧x.Time≤1099511627776 from ⟨m2,m3⟩)]
 simp only [xX,w4,vM]
 refine Ok.ite (fun q=>?_) fun _=>rest
 have q:0<(pre.length:Int):=by simpa using q
 have h1:(pre.length:Int) - 1<d.Events.length:=by omega
 refine Ok.chk (a5q (by omega) (by omega)) (Ok.chk (u6.2 ⟨by omega,h1⟩) (Ok.ite (fun w=>?_) fun _=>rest))
 exfalso
 have w:=of_decide_eq_true w
 have hlt:pre.length - 1<d.Events.length:=by omega
 have e:d.Events.getD ((pre.length:Int) - 1).toNat default=d.Events[pre.length - 1]:=by
  rw [show ((pre.length:Int) - 1).toNat=pre.length - 1 by omega,zE,zJ hlt];rfl
 have e2:d.Events[pre.length]=x:=by simp [hw]
 have:=(List.pairwise_iff_getElem.1 g.srt) (pre.length - 1) pre.length hlt hp (by omega)
 rw [e2] at this
 rw [e] at w
 omega
theorem c4h {d:d9} (g:a2t d) {p:Int} (t:Int) (h0:0≤p) (h1:p<d.Kinds.length):F_l d p t=some (upl d p t):=by
 have hk:=g.kl
 simp only [F_l,a8a g,b1f hk,wT (show 0≤p∧p<(d.Kinds.length:Int) from ⟨h0,h1⟩),xX,w4,vM]
 have hu:upF d.Kinds.length (d.Events.map fun e=>(e.Time,e.Kind,e.Principal,e.Group)) p t=some ((List.range d.Kinds.length).map (oul (dlk d t) d.Kinds.length (fun i=>decide (i=p.toNat)) d.Kinds.length)):=by
  unfold upF
  rw [p8,p8]
  ·simp [dlk]
  ·simp only [wD,vE]
   rintro _ ⟨e,he,rfl⟩
   obtain ⟨_,_,_,h4,h5,_⟩:=g.ev e he
   have e1:inb e.Principal 24=true:=u6.2 ⟨h4.1,by omega⟩
   have e2:inb e.Group 24=true:=u6.2 ⟨h5.1,by omega⟩
   simp [e1,e2]
  ·rw [u6.2 ⟨h0,h1⟩,wT hk];rfl
 rw [hu]
 generalize hy:(List.range d.Kinds.length).map (oul (dlk d t) d.Kinds.length (fun i=>decide (i=p.toNat)) d.Kinds.length)=y
 have hyl:y.length=d.Kinds.length:=by rw [←hy];simp
 have hyi:∀i,i<d.Kinds.length→gt y i=oul (dlk d t) d.Kinds.length (fun i=>decide (i=p.toNat)) d.Kinds.length i:=fun i hi=>by
  rw [←hy];simp [gt,zE,hi]
 have hpn:p.toNat<d.Kinds.length:=by omega
 have hRT:∀i,i<d.Kinds.length→(gt y i=true↔RT (dlk d t) d.Kinds.length p.toNat i):=fun i hi=>by
  rw [hyi i hi]
  constructor
  ·exact b8q (P:=fun i=>RT (dlk d t) d.Kinds.length p.toNat i) (fun a b ha hb h hl=>.step h ha hb hl) (fun i h=>by
    have:=of_decide_eq_true h
    subst this;exact .refl) _ i
  ·intro h
   induction h with
   | refl=>exact c33 (by simp) _
   | step h ha hb hl ih=>exact b6d hpn _ _ ha hb (ih ha) hl
 have ht:=c2g y (by omega)
 have hup:g6m=f9c:=rfl
 simp only [e1t] at ht
 simp only [xX,hup]
 rw [ht]
 simp only [upl,hyl]
 congr 2
 refine List.filter_congr fun i hi=>?_
 have:=hRT i (List.mem_range.1 hi)
 cases e:gt y i with
 | true=>simp [this.1 e]
 | false =>
  have h:¬RT (dlk d t) d.Kinds.length p.toNat i:=fun h=>by rw [this.2 h] at e;cases e
  simp [h]
theorem d7c (l:List Int) (x:Int):f3s l x=some (decide (x∈l)):=by
 simp only [f3s]
 rw [a1c (fun y=>if y=x then some true else none) l 0 (fun k y _=>by by_cases e:y=x<;>simp [g50,e,flO])]
 simp only [xX,a3t]
 have:a5c (fun y=>if y=x then some true else none) l=if x∈l then some true else none:=by
  induction l with
  | nil=>rfl
  | cons y r ih =>
   by_cases e:y=x
   ·simp [a5c,e]
   ·have e':¬x=y:=fun h=>e h.symm
    simp [a5c,e,e',ih]
 rw [this]
 by_cases e:x∈l<;>simp [e]
open Classical in
theorem c0v {d:d9} {a:l5} {p pl t:Int} {U G:List Int} (h1:F_l d p t=some U) (h2:e3o a pl t=some G):f4z d a p pl t=some (decide (∃x∈G,x∈U)):=by
 simp only [f4z,h1,h2,xX]
 rw [a1c (fun y=>if y∈U then some true else none) G 0 (fun k y _=>by by_cases e:y∈U<;>simp [g4z,d7c,e,flO])]
 simp only [xX,a3t]
 have:a5c (fun y=>if y∈U then some true else none) G=if ∃x∈G,x∈U then some true else none:=by
  clear h1 h2
  induction G with
  | nil=>simp [a5c]
  | cons y r ih =>
   by_cases e:y∈U
   ·simp [a5c,e]
   ·simp only [a5c,if_neg e]
    rw [ih]
    simp [e]
 rw [this]
 by_cases e:∃x∈G,x∈U<;>simp [e]
open Classical in
theorem d7b {d:d9} {a:l5} (g:a2t d) (h:Good a) (p pl t:Int):f3r d a p pl t=some (decide (c66 d a p pl t)):=by
 simp only [f3r,a8a g,a9w,b68 g,b6a a pl t h.len,b3w,xX,w4,vM]
 by_cases c1:0≤pl∧pl≤a.Places - 1
 ·have hk:=b3f h c1.1 c1.2
  simp only [hk,xX,w4,vM]
  by_cases c:rdr d p
  ·simp only [wT c,w4,vM,a7w t hk,xX]
   cases e:(lkf pl t a.Events 0 (0,false)).2 with
   | true =>
    simp only [vO,jn,xX]
    rw [wT (show c66 d a p pl t from ⟨⟨c,c1⟩,.inl e⟩)]
   | false =>
    rw [c0v (c4h g t c.1 c.2.1) (by rw [b3w];exact b1s t h.len hk)]
    simp only [vM,jn,xX,b3c]
    congr 1
    refine decide_eq_decide.2 ⟨fun q=>⟨⟨c,c1⟩,.inr q⟩,fun q=>?_⟩
    rcases q.2 with q|q
    ·rw [e] at q;cases q
    ·exact q
  ·simp only [wG c,wV,vO]
   rw [wG (fun q:c66 d a p pl t=>c q.1.1)]
 ·have hk:F_1 a pl=some false:=by
   rw [b3g,wG (fun q:Good a∧0≤pl∧pl≤a.Places - 1=>c1 q.2)]
  simp only [hk,xX,wV,vO]
  rw [wG (fun q:c66 d a p pl t=>c1 q.1.2)]
theorem c1p {a:l5} (g:Good a) (t:Int):Ok (f3t a t) fun n=>∃k:Nat,n=(k:Int)∧k≤a.Events.length∧(∀x∈a.Events.take k,x.Time≤t)∧∀x∈a.Events.drop k,t<x.Time:=by
 have hl:=g.len
 unfold f3t
 refine Ok.bind (Ok.loop (fun s:Int=>∃k:Nat,s=(k:Int)∧k≤a.Events.length∧∀x∈a.Events.take k,x.Time≤t) (fun s=>((a.Events.length:Int) - s).toNat) (fun s hs=>?_) _ ⟨0,rfl,by omega,by simp⟩) fun r hr=>Ok.ret hr
 obtain ⟨k,rfl,h1,h2⟩:=hs
 unfold g53
 refine Ok.ite (fun q=>?_) fun q=>Ok.ret ⟨k,rfl,h1,h2,fun x hx=>?_⟩
 ·have q:(k:Int)<a.Events.length:=by simpa using q
  have hk:k<a.Events.length:=by omega
  have e:a.Events.getD (k:Int).toNat default=a.Events[k]:=by
   rw [xU,zE,zJ hk];rfl
  refine Ok.chk (u6.2 ⟨by omega,q⟩) ?_
  rw [e]
  refine Ok.ite (fun w=>Ok.chk (a5q (by omega) (by omega)) (Ok.ret ⟨⟨k+1,by simp,by omega,fun x hx=>?_⟩,by show ((a.Events.length:Int) - ((k:Int)+1)).toNat<((a.Events.length:Int) - (k:Int)).toNat;omega⟩)) fun w=>Ok.ret ⟨k,rfl,h1,h2,fun x hx=>?_⟩
  ·rw [List.take_succ,zJ hk] at hx
   simp only [Option.toList_some,wL,xF] at hx
   rcases hx with hx|rfl
   ·exact h2 x hx
   ·exact of_decide_eq_true w
  ·have w:¬a.Events[k].Time≤t:=of_decide_eq_false w
   rw [List.drop_eq_getElem_cons hk] at hx
   have hs:(a.Events.drop k).Pairwise fun x y=>x.Time≤y.Time:=g.srt.sublist (List.drop_sublist _ _)
   rw [List.drop_eq_getElem_cons hk,List.pairwise_cons] at hs
   rcases wY.1 hx with rfl|hx
   ·omega
   ·have:=hs.1 x hx;omega
 ·have q:¬(k:Int)<a.Events.length:=by simpa using q
  rw [List.drop_eq_nil_of_le (by omega)] at hx
  cases hx
theorem c9q {c t:Int}:∀{E:List o7} {s:Int→Bool},(∀x∈E,x.Time≤t)→cfo c t E s=E.foldl (fun s x=>cst c x s) s
 | [],s,_=>rfl
 | x::r,s,h=>by
  simp only [cfo,wO,if_pos (h x (by simp))]
  exact c9q (E:=r) fun y hy=>h y (by simp [hy])
theorem d5l {c t:Int}:∀{E:List o7} {s:Int→Bool},(∀x∈E,t<x.Time)→cfo c t E s=s
 | [],s,_=>rfl
 | x::r,s,h=>by
  have:=h x (by simp)
  simp only [cfo,wO,if_neg (show ¬x.Time≤t by omega)]
  exact d5l (E:=r) fun y hy=>h y (by simp [hy])
theorem d2w {a:l5} {c t:Int} {k:Nat} (h1:∀x∈a.Events.take k,x.Time≤t) (h2:∀x∈a.Events.drop k,t<x.Time):hld a c t=(a.Events.take k).foldl (fun s x=>cst c x s) fun _=>false:=by
 have:hld a c t=cfo c t (a.Events.drop k) (cfo c t (a.Events.take k) fun _=>false):=by
  simp only [hld,cfo]
  rw [←List.foldl_append,List.take_append_drop]
 rw [this,d5l h2,c9q h1]
def bof (l:List Bool) (s:Int→Bool):Prop:=∀i:Int,0≤i→i<l.length→l.getD i.toNat default=s i
theorem e0e {l:List Bool} {s:Int→Bool} (h:bof l s) {p:Int} {b:Bool} (hp:0≤p) (hl:p<l.length):bof (l.set p.toNat b) (upd s p b):=by
 intro i h0 h1
 rw [List.length_set] at h1
 simp only [upd,zE,xP]
 by_cases e:i=p
 ·subst e
  simp [show i.toNat<l.length by omega]
 ·rw [if_neg (by omega),if_neg e]
  have:=h i h0 h1
  rwa [zE] at this
theorem d21 {P c:Int} {l:List Bool} {s:Int→Bool} {x:o7} (k:Int) (h:xok P x) (hl:(l.length:Int)=P) (hw:bof l s):Ok (f8y c k x l) fun l'=>l'.length=l.length∧bof l' (cst c x s):=by
 obtain ⟨_,_,h3,h4,h5⟩:=h
 have hp:inb x.Place l.length=true:=u6.2 ⟨h3,by omega⟩
 have hP:=hw x.Place h3 (by omega)
 have fin:∀b b':Bool,b=b'→Ok (chk (inb x.Place l.length) (some (l.set x.Place.toNat b))) fun l'=>l'.length=l.length∧bof l' (upd s x.Place b'):=fun b b' e=>by
  subst e
  exact Ok.chk hp (Ok.ret ⟨by simp,e0e hw h3 (by omega)⟩)
 unfold f8y
 refine Ok.ite (fun q=>?_) fun q=>Ok.ite (fun q2=>?_) fun q2=>Ok.ite (fun q3=>?_) fun q3=>?_
 ·have q:x.Kind=5:=by simpa using q
  simp only [cst,if_pos q]
  refine Ok.chk hp (Ok.ite (fun w=>fin _ _ ?_) fun w=>fin _ _ ?_)
  ·rw [hP] at w;rw [w];rfl
  ·rw [hP] at w;rw [w];rfl
 ·have q:¬x.Kind=5:=by simpa using q
  have q2:x.Kind=6:=by simpa using q2
  simp only [cst,if_neg q,if_pos q2]
  refine Ok.chk hp (Ok.ite (fun w=>fin _ _ ?_) fun w=>fin _ _ ?_)
  ·rw [hP] at w;rw [w];rfl
  ·rw [hP] at w;rw [w];rfl
 ·have q:¬x.Kind=5:=by simpa using q
  have q2:¬x.Kind=6:=by simpa using q2
  have q3:x.Kind=7:=by simpa using q3
  simp only [cst,if_neg q,if_neg q2,if_pos q3]
  refine Ok.chk hp (Ok.ite (fun w=>fin _ _ ?_) fun w=>Ok.chk (u6.2 ⟨by omega,by omega⟩) (fin _ _ ?_))
  ·rw [hP] at w;rw [w];rfl
  ·rw [hP] at w;rw [w,hw x.From (by omega) (by omega)];rfl
 ·have q:¬x.Kind=5:=by simpa using q
  have q2:¬x.Kind=6:=by simpa using q2
  have q3:¬x.Kind=7:=by simpa using q3
  simp only [cst,if_neg q,if_neg q2,if_neg q3]
  exact Ok.ret ⟨rfl,hw⟩
theorem e5h {a:l5} (g:Good a) (c:Int) {k:Nat} (hk:k≤a.Events.length):Ok (f5c a c (k:Int)) fun l=>(l.length:Int)=a.Places∧bof l ((a.Events.take k).foldl (fun s x=>cst c x s) fun _=>false):=by
 have h2:=g.lo
 have h3:=g.hi
 unfold f5c
 refine Ok.chk (a3v.2 ⟨by omega,by omega,by omega⟩) (Ok.chk (a5v.2 ⟨by omega,by omega,by omega⟩) ?_)
 rw [xU]
 refine Ok.bind (Ok.foldI (all:=a.Events.take k) (fun pre l=>(l.length:Int)=a.Places∧bof l (pre.foldl (fun s x=>cst c x s) fun _=>false)) (a.Events.take k) [] 0 _ rfl rfl ⟨by simp;omega,fun i hi hl=>?_⟩ (fun pre x r s hw hs=>?_) fun s hs=>hs) fun s hs=>Ok.ret hs
 ·simp only [List.foldl_nil,List.length_replicate] at hl ⊢
  rw [zE,List.getElem?_replicate,if_pos (by omega)]
  rfl
 ·have hx:=g.ev x (List.mem_of_mem_take (i:=k) (by rw [hw];simp))
  refine Ok.mono (d21 _ hx hs.1 hs.2) fun l' hl'=>⟨by rw [hl'.1];exact hs.1,?_⟩
  simp only [List.foldl_append,wO,List.foldl_nil]
  exact hl'.2
end Go.Ab
namespace Go.Ab
open Go.Proofs Classical
theorem b7f:∀(xs:List Bool) (k:Nat) (s:List Int),s.length+xs.length≤1000→foldL f8x xs (k:Int) s=some (s++((List.range xs.length).filter fun i=>xs.getD i false).map fun i:Nat=>((k+i:Nat):Int))
 | [],k,s,_=>by simp [foldL]
 | x::r,k,s,h=>by
  simp only [wA] at h
  have e1:((List.range (r.length+1)).filter fun i=>(x::r).getD i false)=(if x then [0] else [])++((List.range r.length).filter fun i=>r.getD i false).map fun i=>i+1:=by
   rw [List.range_succ_eq_map,List.filter_cons,List.filter_map]
   cases x<;>simp [Function.comp_def]
  have e2:((k:Int)+1)=((k+1:Nat):Int):=by omega
  have hm:(((List.range r.length).filter fun i=>r.getD i false).map fun i=>i+1).map (fun i:Nat=>((k+i:Nat):Int))=((List.range r.length).filter fun i=>r.getD i false).map fun i:Nat=>((k+1+i:Nat):Int):=by
   rw [List.map_map]
   refine List.map_congr_left fun i _=>?_
   simp only [Function.comp];omega
  rw [wA,e1,List.map_append,hm]
  simp only [foldL,f8x]
  cases x with
  | false =>
   simp only [vM,xX]
   rw [e2,b7f r (k+1) s (by omega)]
   simp
  | true =>
   have hr:room (s.length+[(k:Int)].length) 8=true:=a4m (by simp;omega)
   simp only [vO,p8 hr,xX]
   rw [e2,b7f r (k+1) _ (by simp;omega)]
   simp
theorem c7m {a:l5} (g:Good a) {c:Int} (h0:0≤c) (h1:c≤63) (t:Int):f5b a c t=some (whr a c t):=by
 have hlo:=g.lo
 have hhi:=g.hi
 have hr:f3u a c=some true:=by
  simp only [f3u,valid_eq,wT g,xX,wT h0,wT h1,jn,grp,vO,w6]
 refine Ok.eq ?_
 simp only [f5b,hr,xX,w4,vM]
 refine Ok.bind (c1p g t) fun n hn=>?_
 obtain ⟨k,rfl,k1,k2,k3⟩:=hn
 refine Ok.bind (e5h g c k1) fun l hl=>?_
 obtain ⟨l1,l2⟩:=hl
 have:=b7f l 0 [] (by simp;omega)
 rw [show ((0:Nat):Int)=0 from rfl] at this
 rw [this]
 refine Ok.ret ?_
 have e2:=d2w (c:=c) k2 k3
 rw [←e2] at l2
 rw [e3t g h0 h1]
 have e:l.length=a.Places.toNat:=by omega
 simp only [wJ,vA,e]
 congr 1
 refine List.filter_congr fun i hi=>?_
 have hi:=List.mem_range.1 hi
 have:=l2 (i:Int) (by omega) (by omega)
 rw [xU] at this
 exact this
set_option maxRecDepth 20000
theorem c8x {T U:List Int} {q:Int→Bool} (hT:T.Pairwise fun x y=>x≤y) (hU:U.Pairwise fun x y=>x≤y) (h:∀t,t∈T↔t∈U):T.find? q=U.find? q:=by
 cases e:U.find? q with
 | none=>rw [List.find?_eq_none] at e ⊢;exact fun x hx=>e x ((h x).1 hx)
 | some t =>
  obtain ⟨t',e1,l1⟩:=b6l hT ((h t).2 (List.mem_of_find?_eq_some e)) (List.find?_some e)
  obtain ⟨t2,e2,l2⟩:=b6l hU ((h t').1 (List.mem_of_find?_eq_some e1)) (List.find?_some e1)
  rw [e] at e2;cases e2
  rw [e1,show t'=t by omega]
def e2l (d:d9) (p:Int):Prop:=p=-1∨rdr d p
theorem b67 {d:d9} {a:l5} (g:a2t d) (h:Good a) {c p:Int} (h0:0≤c) (h1:c≤63):e1e d a c p=some (decide (e2l d p)):=by
 by_cases hp:p=-1
 ·have:decide (e2l d p)=true:=wT (.inl hp)
  simp only [e1e,a8a g,valid_eq,wT h,wT h0,wT h1,wT hp,jn,grp,vO,vM,xX,w6,this]
 ·have:decide (e2l d p)=decide (rdr d p):=decide_eq_decide.2 ⟨fun e=>e.resolve_left hp,.inr⟩
  simp only [e1e,a8a g,valid_eq,wT h,wT h0,wT h1,wG hp,b68 g,jn,grp,vO,vM,xX,w6,this]
theorem d1w {d:d9} {a:l5} {c p t:Int} (hr:¬e2l d p):pla d a c p t=none:=by
 unfold pla
 rw [List.find?_eq_none]
 intro x _
 simp only [see,if_neg fun e=>hr (.inl e),xM]
 exact fun hm=>hr (.inr hm.1.1)
theorem c4x {d:d9} {a:l5} (g:a2t d) (h:Good a) {c p t:Int} (h0:0≤c) (h1:c≤63) (hr:e2l d p) (t0:0≤t) (t1:t≤1099511627776):f4y d a c p t=some (pla d a c p t).isSome:=by
 unfold f4y
 rw [b67 g h h0 h1,xX,wT hr]
 simp only [grp,wG (show ¬t<0 by omega),wG (show ¬1099511627776<t by omega),w4,Bool.or_self,vM]
 rw [c7m h h0 h1,xX]
 rw [a1c (fun x=>if see d a p t x then some true else none) (whr a c t) 0 fun k x hm=>by
  have hx:=c6b h h0 h1 t x hm
  by_cases hp:p=-1
  ·simp only [f8v,wT hp,vO,b6a a x t h.len,a7w t (b3f h hx.1 hx.2),xX,see,if_pos hp]
   cases (lkf x t a.Events 0 (0,false)).2<;>simp [flO]
  ·simp only [f8v,wG hp,vM,d7b g h,xX,see,if_neg hp]
   by_cases q:c66 d a p x t<;>simp [q,flO]]
 simp only [xX,a3t,a6l,pla]
 cases (whr a c t).find? (see d a p t)<;>rfl
theorem c4m {a:l5} (h:Good a):Ok (f5d a) fun ts=>ts.length≤a.Events.length∧(ts.Pairwise fun x y=>x≤y)∧∀t,t∈ts↔∃x∈a.Events,x.Time=t:=by
 have hl:=h.len
 unfold f5d
 rw [valid_eq,wT h,xX,w4,vM]
 refine Ok.bind (Ok.foldI (all:=a.Events) (fun pre ts=>ts.length≤pre.length∧(ts.Pairwise fun x y=>x≤y)∧∀t,t∈ts↔∃x∈pre,x.Time=t) a.Events [] 0 _ rfl rfl ⟨vJ _,List.Pairwise.nil,by simp⟩ (fun pre x r s hw hs=>?_) fun s hs=>hs) fun s hs=>Ok.ret hs
 obtain ⟨s1,s3,s2⟩:=hs
 have hp:pre.length<a.Events.length:=by rw [hw];simp
 have hsr:=h.srt
 rw [hw,List.pairwise_append] at hsr
 have hle:∀t∈s,t≤x.Time:=fun t ht=>by
  obtain ⟨y,hy,e⟩:=(s2 t).1 ht
  have:=hsr.2.2 y hy x (by simp)
  omega
 have hadd:(s++[x.Time]).length≤(pre++[x]).length∧((s++[x.Time]).Pairwise fun x y=>x≤y)∧∀t,t∈s++[x.Time]↔∃y∈pre++[x],y.Time=t:=by
  refine ⟨by simp;omega,?_,fun t=>?_⟩
  ·rw [List.pairwise_append]
   exact ⟨s3,by simp,fun t ht u hu=>by rw [xF] at hu;subst hu;exact hle t ht⟩
  rw [wL,s2,xF]
  constructor
  ·rintro (⟨y,hy,e⟩|rfl)
   ·exact ⟨y,List.mem_append_left _ hy,e⟩
   ·exact ⟨x,zU _ (xF.2 rfl),rfl⟩
  ·rintro ⟨y,hy,e⟩
   rcases wL.1 hy with hy|hy
   ·exact .inl ⟨y,hy,e⟩
   ·rw [xF] at hy;subst hy;exact .inr e.symm
 have hr:room (s.length+[x.Time].length) 8=true:=a4m (by simp only [zV];omega)
 unfold g55
 refine Ok.ite (fun _=>Ok.chk hr (Ok.ret hadd)) fun c1=>?_
 have c1:=of_decide_eq_false c1
 refine Ok.chk (a5q (by omega) (by omega)) (Ok.chk (u6.2 ⟨by omega,by omega⟩) (Ok.ite (fun _=>Ok.chk hr (Ok.ret hadd)) fun c2=>Ok.ret ⟨by simp;omega,s3,fun t=>?_⟩))
 have c2:s.getD ((s.length:Int) - 1).toNat default=x.Time:=by simpa using c2
 have hm:x.Time∈s:=by
  rw [←c2,zE,zJ (by omega)]
  exact wB _
 rw [←hadd.2.2 t,wL,xF]
 exact ⟨.inl,fun e=>e.elim id fun e=>e▸hm⟩
theorem d1b {d:d9} {a:l5} (g:a2t d) (h:Good a):Ok (f5t d a) fun ts=>(ts.Pairwise fun x y=>x≤y)∧∀t,t∈ts↔t∈tms d a:=by
 have hl:=h.len
 have hd:=g.el
 unfold f5t
 refine Ok.bind (c4m h) fun s0 hs0=>Ok.bind (Ok.foldI (all:=d.Events) (fun pre ts=>ts.length≤120+pre.length∧(ts.Pairwise fun x y=>x≤y)∧∀t,t∈ts↔(∃x∈a.Events,x.Time=t)∨∃x∈pre,x.Time=t) d.Events [] 0 _ rfl rfl ⟨by simp;omega,hs0.2.1,fun t=>by rw [hs0.2.2];simp⟩ (fun pre x r s hw hs=>?_) fun s hs=>hs) fun s hs=>Ok.ret ⟨hs.2.1,fun t=>by rw [hs.2.2,c1h]⟩
 obtain ⟨s1,s3,s2⟩:=hs
 have hp:pre.length<d.Events.length:=by rw [hw];simp
 unfold g54
 refine Ok.bind (P:=fun r:Int=>(0≤r∧r≤s.length)∧(∀y∈s.take r.toNat,y≤x.Time)∧∀y∈s.drop r.toNat,x.Time≤y) (Ok.loop (fun r:Int=>(0≤r∧r≤s.length)∧∀y∈s.take r.toNat,y≤x.Time) (fun r=>((s.length:Int) - r).toNat) (fun r hr=>?_) _ ⟨⟨vL 0,by omega⟩,by simp⟩) fun r hr=>?_
 ·obtain ⟨⟨r0,r1⟩,r2⟩:=hr
  unfold g62
  refine Ok.ite (fun c=>?_) fun c=>Ok.ret ⟨⟨r0,r1⟩,r2,fun y hy=>?_⟩
  ·have c:=of_decide_eq_true c
   have hlt:r.toNat<s.length:=by omega
   have hg:s.getD r.toNat default=s[r.toNat]:=by rw [zE,zJ hlt];rfl
   refine Ok.chk (u6.2 ⟨r0,by omega⟩) (Ok.ite (fun c2=>Ok.chk (a5q (by omega) (by omega)) (Ok.ret ⟨⟨⟨by omega,by omega⟩,fun y hy=>?_⟩,by omega⟩)) fun c2=>Ok.ret ⟨⟨r0,r1⟩,r2,fun y hy=>?_⟩)
   ·have c2:=of_decide_eq_true c2
    rw [hg] at c2
    rw [show (r+1).toNat=r.toNat+1 by omega,List.take_succ_eq_append_getElem hlt] at hy
    rcases wL.1 hy with hy|hy
    ·exact r2 y hy
    ·rw [xF] at hy;omega
   ·have c2:=of_decide_eq_false c2
    rw [hg] at c2
    have hd:s.drop r.toNat=s[r.toNat]::s.drop (r.toNat+1):=List.drop_eq_getElem_cons hlt
    have hpw:=s3.drop (i:=r.toNat)
    rw [hd] at hy hpw
    rw [List.pairwise_cons] at hpw
    rcases wY.1 hy with rfl|hy
    ·omega
    ·have:=hpw.1 y hy;omega
  ·have c:=of_decide_eq_false c
   rw [List.drop_eq_nil_of_le (by omega)] at hy
   simp at hy
 ·obtain ⟨⟨r0,r1⟩,r2,r3⟩:=hr
  have key:s.take r.toNat++s.drop r.toNat=s:=List.take_append_drop _ _
  have ed:(s.drop r.toNat).take (s.length - r.toNat)=s.drop r.toNat:=zP (by simp)
  have hmem:∀t,(t∈s∨t=x.Time)↔(∃y∈a.Events,y.Time=t)∨∃y∈pre++[x],y.Time=t:=fun t=>by
   rw [s2]
   constructor
   ·rintro ((e|⟨y,hy,e⟩)|rfl)
    ·exact .inl e
    ·exact .inr ⟨y,List.mem_append_left _ hy,e⟩
    ·exact .inr ⟨x,zU _ (xF.2 rfl),rfl⟩
   ·rintro (e|⟨y,hy,e⟩)
    ·exact .inl (.inl e)
    ·rcases wL.1 hy with hy|hy
     ·exact .inl (.inr ⟨y,hy,e⟩)
     ·rw [xF] at hy;subst hy;exact .inr e.symm
  have hadd:(s.take r.toNat++([x.Time]++(s.drop r.toNat).take (s.length - r.toNat))).length≤120+(pre++[x]).length∧((s.take r.toNat++([x.Time]++(s.drop r.toNat).take (s.length - r.toNat))).Pairwise fun x y=>x≤y)∧∀t,t∈s.take r.toNat++([x.Time]++(s.drop r.toNat).take (s.length - r.toNat))↔(∃y∈a.Events,y.Time=t)∨∃y∈pre++[x],y.Time=t:=by
   rw [ed]
   refine ⟨by simp only [xH,xZ,List.length_drop,zV];omega,?_,fun t=>?_⟩
   ·have hs:=s3
    rw [←key,List.pairwise_append] at hs
    rw [List.pairwise_append,List.singleton_append,List.pairwise_cons]
    refine ⟨hs.1,⟨r3,hs.2.1⟩,fun y hy z hz=>?_⟩
    rcases wY.1 hz with rfl|hz
    ·exact r2 y hy
    ·exact hs.2.2 y hy z hz
   rw [←hmem]
   have:t∈s↔t∈s.take r.toNat∨t∈s.drop r.toNat:=by rw [←wL,key]
   rw [this]
   simp only [wL,xF]
   constructor
   ·rintro (e|e|e)
    ·exact .inl (.inl e)
    ·exact .inr e
    ·exact .inl (.inr e)
   ·rintro ((e|e)|e)
    ·exact .inl e
    ·exact .inr (.inr e)
    ·exact .inr (.inl e)
  have add:Ok (chk (inc 0 r s.length) (chk (inc r (s.length:Int) s.length) (chk (room ([x.Time].length+((s.drop r.toNat).take (s.length - r.toNat)).length) 8) (chk (c0u 0 r.toNat s.length ([x.Time]++(s.drop r.toNat).take (s.length - r.toNat)).length 8) (some (s.take r.toNat++([x.Time]++(s.drop r.toNat).take (s.length - r.toNat)))))))) fun ts=>ts.length≤120+(pre++[x]).length∧(ts.Pairwise fun x y=>x≤y)∧∀t,t∈ts↔(∃y∈a.Events,y.Time=t)∨∃y∈pre++[x],y.Time=t :=
   Ok.chk (a5v.2 ⟨by omega,by omega,by omega⟩) (Ok.chk (a5v.2 ⟨by omega,by omega,by omega⟩) (Ok.chk (a4m (by rw [ed];simp only [zV,List.length_drop];omega)) (Ok.chk (b8n.2 ⟨by omega,by rw [ed];simp only [xH,zV,List.length_drop];omega⟩) (Ok.ret hadd))))
  refine Ok.ite (fun _=>add) fun c1=>?_
  have c1:=of_decide_eq_false c1
  refine Ok.chk (u6.2 ⟨r0,by omega⟩) (Ok.ite (fun _=>add) fun c2=>Ok.ret ⟨by simp;omega,s3,fun t=>?_⟩)
  have c2:s.getD r.toNat default=x.Time:=by simpa using c2
  have hm:x.Time∈s:=by
   rw [←c2,zE,zJ (by omega)]
   exact wB _
  rw [←hmem]
  exact ⟨.inl,fun e=>e.elim id fun e=>e▸hm⟩
theorem c6z {d:d9} {a:l5} (g:a2t d) (h:Good a) {c p:Int} (h0:0≤c) (h1:c≤63):f4x d a c p=some (d5e (sin d a c p)):=by
 refine Ok.eq ?_
 unfold f4x
 rw [b67 g h h0 h1,xX]
 by_cases hr:e2l d p
 ·rw [wT hr,w4,vM]
  refine Ok.bind (d1b g h) fun ts hts=>?_
  rw [a1c (fun t=>if (pla d a c p t).isSome then some (t,true) else none) ts 0 fun k t ht=>by
   have hb:0≤t∧t≤1099511627776:=by
    rcases c1h.1 ((hts.2 t).1 ht) with ⟨x,hx,rfl⟩|⟨x,hx,rfl⟩
    ·exact ⟨(h.ev x hx).1,(h.ev x hx).2.1⟩
    ·exact ⟨(g.ev x hx).2.1,(g.ev x hx).2.2.1⟩
   simp only [g4y,c4x g h h0 h1 hr hb.1 hb.2,xX]
   cases pla d a c p t<;>simp [flO]]
  simp only [xX,a3t,a6l]
  have e:(ts.find? fun t=>(pla d a c p t).isSome)=sin d a c p:=c8x hts.1 (c45 d a) hts.2
  rw [e]
  cases sin d a c p<;>exact Ok.ret rfl
 ·rw [wG hr,wV,vO]
  have:sin d a c p=none:=by
   unfold sin
   rw [List.find?_eq_none]
   intro t _
   rw [d1w hr];simp
  rw [this]
  exact Ok.ret rfl
theorem d7g {d:d9} {a:l5} (g:a2t d) (h:Good a) {c:Int} (h0:0≤c) (h1:c≤63):f5s d a c=some (b5s d a c,0):=by
 refine Ok.eq ?_
 have hk:=g.kl
 unfold f5s
 rw [a8a g,xX,w4,vM,valid_eq,wT h,xX,w4,vM]
 refine Ok.grp (Ok.ite (fun q=>by simp only [wR,xM] at q;omega) fun _=>?_)
 refine Ok.bind (P:=fun r=>r=b5s d a c) (Ok.loop (fun s:Int×List a01=>∃n:Nat,n≤d.Kinds.length+1∧s.1=(n:Int) - 1∧s.2=b3m d a c n (-1)) (fun s=>((d.Kinds.length:Int) - s.1).toNat) (fun s hs=>?_) _ ⟨0,by omega,rfl,rfl⟩) fun r hr=>Ok.ret (by rw [hr])
 obtain ⟨p,l⟩:=s
 obtain ⟨n,hn,e1,e2⟩:=hs
 simp only at e1 e2
 subst e1 e2
 unfold g4x
 refine Ok.ite (fun q=>?_) fun q=>?_
 ·have q:(n:Int) - 1<d.Kinds.length:=by simpa using q
  have hl:=a8q d a c n (-1)
  refine Ok.jn (P:=fun j=>j=b3m d a c (n+1) (-1)) (Ok.bind (Ok.of (c6z g h h0 h1) rfl) fun y hy=>?_) fun j hj=>Ok.chk (a5q (by omega) (by omega)) (Ok.ret ⟨⟨n+1,by omega,by simp,hj⟩,?_⟩)
  ·subst hy
   rw [b4v,show (-1:Int)+n=n - 1 by omega]
   cases sin d a c ((n:Int) - 1) with
   | none=>exact Ok.ret (by simp)
   | some t=>exact Ok.chk (a4m (by simp;omega)) (Ok.ret rfl)
  ·show ((d.Kinds.length:Int) - ((n:Int) - 1+1)).toNat<((d.Kinds.length:Int) - ((n:Int) - 1)).toNat
   omega
 ·have q:¬(n:Int) - 1<d.Kinds.length:=by simpa using q
  have:n=d.Kinds.length+1:=by omega
  subst this
  exact Ok.ret rfl
end Go.Ab
set_option maxRecDepth 20000
namespace Go.Ab
open Go.Proofs
theorem c7f {f:w9} {s:o5} (h:b0x f s):f4r f s=some (decide (s.Valid=2)&&s.Units.all b8b):=by
 unfold f4r
 rw [b7c h,xX]
 simp only [grp,w4,w5]
 cases hv:decide (s.Valid=2) with
 | false=>rfl
 | true =>
  simp only [w4,vM]
  have hb:∀(k:Int) (u:a1b),f8t k u ()=some (bif b8b u then .nx () else .ex false):=fun k u=>by
   simp only [f8t,grp,b8b]
   cases u.Up<;>cases decide (u.Stored=2)<;>cases decide (u.Used=2)<;>rfl
  rw [a1c (fun u=>if b8b u=true then none else some false) s.Units 0 fun k u _=>by
   rw [hb]
   cases b8b u<;>rfl]
  rw [xX,a2l (p:=fun u=>b8b u=true) fun u _=>rfl]
  by_cases c:∀x∈s.Units,b8b x=true
  ·rw [if_pos c]
   have:s.Units.all b8b=true:=wD.2 c
   rw [this];rfl
  ·rw [if_neg c]
   have:s.Units.all b8b=false:=by
    rw [Bool.eq_false_iff];exact fun e=>c (wD.1 e)
   rw [this];rfl
theorem c1d {c:o6} (h:b70 c) {k:Nat} (hk:k<c.Replicas.length):f4q c k 1=some (c68 c 1 (c.Replicas.getD k default)):=by
 have hv:=b7a h
 obtain ⟨h1,h2,h3,h4,h5,h6⟩:=h
 refine Ok.eq ?_
 unfold f4q
 rw [hv]
 simp only [xX,w4,vM,b3v]
 refine Ok.jn (P:=fun o=>o=.nx ()) (Ok.chk (z8 (by omega) (by omega)) (Ok.grp (Ok.ite (fun q=>?_) fun _=>Ok.ret rfl))) fun o ho=>?_
 ·have e1:decide ((0:Int)≤(k:Int))=true:=wT (by omega)
  have e2:decide ((k:Int)≤(c.Replicas.length:Int) - 1)=true:=wT (by omega)
  rw [e1,e2] at q
  simp at q
 subst ho
 rw [a6o]
 refine Ok.chk (u6.2 ⟨by omega,by omega⟩) ?_
 rw [xU]
 have hg:=h5 (c.Replicas.getD k default) (a8o hk)
 unfold c68 hasB
 cases (c.Replicas.getD k default).Serving with
 | false=>exact Ok.ret rfl
 | true =>
  exact Ok.jn (P:=fun j=>j=!decide (bits .and .i64 (c.Sets.getD (c.Replicas.getD k default).Generation.toNat default) 1=0)) (Ok.chk (u6.2 ⟨hg.1,by omega⟩) (Ok.ret rfl)) fun j hj=>Ok.ret (by rw [hj];rfl)
theorem d1n {c:o6} (h:b70 c):f4p c 1=some (c9h c 1):=by
 have hv:=b7a h
 have h2:=h.2.1
 refine Ok.eq ?_
 unfold f4p
 rw [hv,xX]
 refine Ok.grp (Ok.ite (fun q=>by simp at q) fun _=>Ok.chk (z8 (by omega) (by omega)) (Ok.chk (u6.2 ⟨by omega,by omega⟩) ?_))
 have e:(!decide (bits .and .i64 (c.Sets.getD ((c.Sets.length:Int) - 1).toNat default) 1=0))=hasB c ((c.Sets.length:Int) - 1) 1:=rfl
 rw [e]
 unfold c9h
 cases hasB c ((c.Sets.length:Int) - 1) 1 with
 | true=>exact Ok.ret rfl
 | false =>
  simp only [vM,wV,Bool.true_and]
  refine Ok.bind (P:=fun o=>o=(if c.Replicas.any (c68 c 1)=true then (.ex false:Fl Unit Bool) else .nx ())) (Ok.forI (all:=c.Replicas) (fun pre _=>pre.any (c68 c 1)=false) c.Replicas [] 0 () rfl rfl rfl (fun pre x r s hw hs=>?_) fun s hs=>by rw [hs];rfl) fun o ho=>?_
  ·have hp:pre.length<c.Replicas.length:=by rw [hw];simp
   have hx:c.Replicas.getD pre.length default=x:=by rw [hw];simp [zE]
   unfold g49
   rw [c1d h hp,hx,xX]
   cases ha:c68 c 1 x with
   | true =>
    refine Ok.ret ?_
    have:c.Replicas.any (c68 c 1)=true:=by rw [hw];simp [ha]
    show Fl.ex false=_
    rw [this];rfl
   | false =>
    refine Ok.ret ?_
    show (pre++[x]).any (c68 c 1)=false
    rw [List.any_append,hs];simp [ha]
  ·subst ho
   cases c.Replicas.any (c68 c 1)<;>exact Ok.ret rfl
theorem d3n (d:d9) (a:l5) (c:Int):((b5s d a c).length:Int)=(c7k (b5s d a c)).length+(if (b5s d a c).any (fun x=>decide (x.Principal=-1))=true then 1 else 0):=by
 have tl:∀x∈b3m d a c d.Kinds.length 0,¬x.Principal=-1:=fun x hx=>by have:=(b7o.1 hx).1.1;omega
 have f1:c7k (b3m d a c d.Kinds.length 0)=b3m d a c d.Kinds.length 0:=by
  unfold c7k
  rw [List.filter_eq_self]
  intro x hx
  simpa using tl x hx
 have f2:(b3m d a c d.Kinds.length 0).any (fun x=>decide (x.Principal=-1))=false:=by
  rw [List.any_eq_false]
  intro x hx
  simpa using tl x hx
 have e:b5s d a c=(match sin d a c (-1) with|some t=>[⟨-1,t⟩]|none=>[])++b3m d a c d.Kinds.length 0:=rfl
 rw [e]
 cases sin d a c (-1) with
 | none =>
  simp only [wJ]
  rw [f1]
  simp only [f2,xL,if_false,Int.add_zero]
 | some t =>
  have g1:c7k ([a01.mk (-1) t]++b3m d a c d.Kinds.length 0)=b3m d a c d.Kinds.length 0:=by
   unfold c7k at f1 ⊢
   rw [List.filter_append,f1];rfl
  simp only
  rw [g1]
  simp
set_option maxRecDepth 20000
theorem c4z {m:o9} (h:SV m):F_7 (ltx m)=some (m,0):=by
 have hl:=c89 h
 obtain ⟨r,e,hr⟩:=e5f (t:=ltx m) (by omega)
 rw [e]
 exact congrArg some (d7d hr (.inl ⟨m,h,rfl,rfl⟩))
def rvk (r:l7) (k:Nat):l7:=⟨r.Issuers,r.Credentials.set k (l9.mk (r.Credentials.getD k default).Issuer (r.Credentials.getD k default).Fingerprint (r.Credentials.getD k default).Holder (r.Credentials.getD k default).From (min (r.Credentials.getD k default).Until ((r.Credentials.getD k default).From+1)))⟩
theorem c3i {α:Type} [Inhabited α] {p:α→Bool} {y:α}:∀(l:List α) (k i:Nat),(p y=true→p (l.getD k default)=true)→(b5j p i (l.set k y)).length≤(b5j p i l).length
 | [],k,i,_=>by simp
 | x::r,0,i,h=>by
  simp only [List.set_cons_zero,b5j]
  simp only [List.getD_cons_zero] at h
  cases hy:p y with
  | false=>simp only [vM];cases p x<;>simp
  | true=>rw [h hy];simp
 | x::r,k+1,i,h=>by
  have ih:=c3i r k (i+1) (by simpa using h)
  simp only [List.set_cons_succ,b5j]
  cases p x<;>simp<;>exact ih
theorem b4m {α:Type} [Inhabited α] {p:α→Bool} {y:α}:∀(l:List α) (k i:Nat),k<l.length→p y=p (l.getD k default)→b5j p i (l.set k y)=b5j p i l
 | [],k,i,hk,_=>by simp at hk
 | x::r,0,i,hk,h=>by
  simp only [List.getD_cons_zero] at h
  simp only [List.set_cons_zero,b5j,h]
 | x::r,k+1,i,hk,h=>by
  simp only [List.set_cons_succ,b5j]
  rw [b4m r k (i+1) (by simpa using hk) (by simpa using h)]
theorem e5a {r:l7} (h:a4r r) {k:Nat} (hk:k<r.Credentials.length):a4r (rvk r k)∧(∀fp,finds (rvk r k) fp=finds r fp)∧(rvk r k).Credentials.length=r.Credentials.length:=by
 obtain ⟨h1,h2,h3,h4,h5⟩:=h
 have hm:=a8o hk
 have hl:(rvk r k).Credentials.length=r.Credentials.length:=by simp [rvk]
 obtain ⟨y,hy⟩:∃y,y=l9.mk (r.Credentials.getD k default).Issuer (r.Credentials.getD k default).Fingerprint (r.Credentials.getD k default).Holder (r.Credentials.getD k default).From (min (r.Credentials.getD k default).Until ((r.Credentials.getD k default).From+1)):=⟨_,rfl⟩
 have e:rvk r k=⟨r.Issuers,r.Credentials.set k y⟩:=by rw [hy];rfl
 have hold:∀i h' t,hdB i h' t y=true→hdB i h' t (r.Credentials.getD k default)=true:=fun i h' t q=>by
  subst hy
  simp only [hdB,wE,xM] at q ⊢
  exact ⟨q.1,by omega⟩
 have hlen:∀i h' t,(e9e (rvk r k).Credentials i h' t).length≤(e9e r.Credentials i h' t).length:=fun i h' t=>by
  rw [e];exact c3i r.Credentials k 0 (hold i h' t)
 have hcr:=h4 _ hm
 have hcy:d3y r.Issuers.length y:=by
  subst hy
  obtain ⟨a1,a2,a3,a4,a5,a6,a7⟩:=hcr
  exact ⟨a1,a2,a3,a4,a5,by show (r.Credentials.getD k default).From<min _ _;omega,by show min _ _≤_;omega⟩
 have hpl:∀c:l9,crR r c→∀c':l9,c'.Issuer=c.Issuer→c'.Holder=c.Holder→c'.From=c.From→crR (rvk r k) c':=fun c hc c' e1 e2 e3=>by
  unfold crR at hc ⊢
  rw [e1,e2,e3]
  have:=hlen c.Issuer c.Holder c.From
  have ei:(rvk r k).Issuers=r.Issuers:=rfl
  rw [ei];omega
 refine ⟨⟨h1,by rw [hl];exact h2,h3,fun c hc=>?_,fun c hc=>?_⟩,fun fp=>?_,hl⟩
 ·rw [e] at hc ⊢
  rcases List.mem_or_eq_of_mem_set hc with hc|rfl
  ·exact h4 c hc
  ·exact hcy
 ·have hc':c∈r.Credentials.set k y:=by rw [e] at hc;exact hc
  rcases List.mem_or_eq_of_mem_set hc' with hc'|rfl
  ·exact hpl c (h5 c hc') c rfl rfl rfl
  ·subst hy;exact hpl _ (h5 _ hm) _ rfl rfl rfl
 ·unfold finds
  rw [e]
  exact b4m r.Credentials k 0 hk (by rw [hy])
theorem g1y {r:l7} (h:a4r r) {k:Nat} (hk:k<r.Credentials.length):f3d r k=some true:=by
 have:=h.2.1
 simp only [f3d,a8i h,xX,decide_true,vO,p8 (z8 (n:=(r.Credentials.length:Int) - 1) (by omega) (by omega)),d57,jn,show decide ((0:Int)≤(k:Int))=true from wT (by omega),show decide ((k:Int)≤(r.Credentials.length:Int) - 1)=true from wT (by omega),w6]
theorem c9k (l:List a0j) (h:l.length≤1000):Ok (f3c l) fun y=>y=l:=by
 unfold f3c
 rw [c3y fun e=>by cases l with
  | nil=>rw [p8 (a0p (by simp))];rfl
  | cons x r=>simp at e]
 exact Ok.chk (a0p (by simp;omega)) (Ok.ret (by simp))
theorem d40 (l:List l9) (h:l.length≤1000):Ok (f3b l) fun y=>y=l:=by
 unfold f3b
 rw [c3y fun e=>by cases l with
  | nil=>rw [p8 (a0p (by simp))];rfl
  | cons x r=>simp at e]
 exact Ok.chk (a0p (by simp;omega)) (Ok.ret (by simp))
theorem c7d {r:l7} (h:a4r r) {k:Nat} (hk:k<r.Credentials.length):f3a r k ((r.Credentials.getD k default).From+1)=some (rvk r k,0):=by
 apply Ok.eq
 have h1:=h.1;have h2:=h.2.1
 simp only [f3a,a8i h,g1y h hk,xX,decide_true,w4,vM,xU]
 refine Ok.chk (u6.2 ⟨by omega,by omega⟩) (Ok.ite (fun e=>by have:=of_decide_eq_true e;omega) fun _=>?_)
 refine Ok.bind (P:=fun y=>y=r) ?_ fun y hy=>?_
 ·unfold f7h
  refine Ok.bind (c9k _ (by omega)) fun a ha=>Ok.bind (d40 _ (by omega)) fun b hb=>Ok.ret ?_
  rw [ha,hb]
 ·subst hy
  exact Ok.chk (u6.2 ⟨by omega,by omega⟩) (Ok.chk (u6.2 ⟨by omega,by omega⟩) (Ok.ret rfl))
theorem c8m (l:List Int) (hl:l.length≤100000):f2z l l=some true:=by
 simp only [f2z,decide_true,w4,vM]
 apply Ok.eq
 refine Ok.bind (P:=fun o:Fl Unit Bool=>o=.nx ()) (Ok.forI (all:=l) (fun _ _=>True) l [] 0 () rfl rfl trivial (fun pre x r s hw _=>?_) fun s _=>rfl) fun o ho=>by subst ho;exact Ok.ret rfl
 have hp:pre.length<l.length:=by rw [hw];simp
 have hx:l.getD pre.length default=x:=by rw [hw];simp [zE]
 unfold g48
 refine Ok.chk (u6.2 ⟨by omega,by omega⟩) ?_
 rw [xU,hx]
 simp only [decide_true,w4,vM]
 exact Ok.ret trivial
theorem d1p {m:o9} {r r':l7} {x:o8} {w:List Int} (h:a4r r) (h':a4r r') (e:∀fp,finds r' fp=finds r fp):d60 m r' x w=d60 m r x w:=by
 simp only [d60,a8i h,a8i h',b3y h,b3y h',e]
theorem c9z {d:d9} {a:l5} {r r':l7} {x:o8} {w:List Int} {f:a2h} {c:Int} {fl:w9} {s:o5} {g:o6} (h:a4r r) (h':a4r r') (e:∀fp,finds r' fp=finds r fp):d0n d a r' x w f c fl s g=d0n d a r x w f c fl s g:=by
 simp only [d0n,d1p h h' e]
theorem d6k {z:b2u} (h:Scn z):Scn (b2u.mk z.d_ z.a_ z.r_ (o8.mk 24 z.x_.Resources z.x_.Grants z.x_.Stores z.x_.Mints) z.w_ z.f_ z.c_ z.jL z.s_ z.qK):=by
 have g:=h.x
 have hc:=g.c1
 refine ⟨h.d,h.dk,h.dk1,h.a,h.r,⟨by show (0:Int)≤24;omega,by show (24:Int)≤24;omega,g.r0,g.r1,g.gl,g.sl,g.ml,fun q hq=>?_,fun q hq=>?_,fun q hq=>?_⟩,h.w,h.wl,h.f0,h.f1,h.fw,h.c0,h.c1,h.s,h.g⟩
 ·have:=g.gr q hq;simp only [gOK] at this ⊢;omega
 ·have:=g.st q hq;simp only [sOK] at this ⊢;omega
 ·have:=g.mi q hq;simp only [mOK] at this ⊢;omega
theorem d15 {d:d9} {a:l5} {r:l7} {x:o8} {w:List Int} {f:a2h} {c:Int} {fl:w9} {s:o5} {g:o6} (h:Scn ⟨d,a,r,x,w,f,c,fl,s,g⟩) (hc:x.Credentials=24) :
  Ok (d0n d a r x w f c fl s g) fun y=>y.2=0∧d4o ⟨d,a,r,x,w,f,c,fl,s,g⟩ y.1:=by
 obtain ⟨y,e,hy⟩:=d49 h
 unfold g3o at e
 obtain ⟨z,e1,e2⟩:=zL.1 e
 obtain rfl:=wH e2
 refine ⟨z,e1,?_⟩
 rcases hy with ⟨⟨k,hk,q⟩,_⟩|⟨_,q1,q2⟩
 ·have:=(b8w h.r hk).2
  simp only at q
  omega
 ·exact ⟨q1,q2⟩
theorem c1o (l:List Int):f9v l=some true:=by
 refine Ok.eq ?_
 unfold f9v
 refine Ok.ite (fun _=>by rw [d5m];exact Ok.ret rfl) fun q=>?_
 have q:=of_decide_eq_false q
 refine Ok.bind (f0m (t:=⟨l,0⟩) ⟨vL 0,by show l.length≤1000;omega⟩) fun d hd=>?_
 obtain ⟨d1,d2,d3,_,_,d6⟩:=hd
 refine Ok.bind (c98 d6 d3) fun a ha=>?_
 obtain ⟨a1,a2,a3,a4,a5⟩:=ha
 refine Ok.bind (c0z a5) fun r hr=>Ok.bind (c79 hr.2) fun x hx=>?_
 obtain ⟨x1,x2,x3,x4,x5,x6,x7⟩:=hx
 refine Ok.bind (c69 x7 (by omega) (by omega)) fun w hw=>?_
 obtain ⟨w1,w2,w3⟩:=hw
 refine Ok.bind (a0l w3 (by omega)) fun f hf=>Ok.bind (a0l hf.2.2 (by omega)) fun n hn=>Ok.chk (z8 (by omega) (by omega)) (Ok.chk (a3v.2 ⟨by omega,vL _,by omega⟩) (Ok.bind (a0l hn.2.2 (by omega)) fun c hc=>Ok.bind (f0j hc.2.2) fun fl hfl=>Ok.bind (d9c hfl.2 hfl.1) fun s hs=>Ok.bind (c5h hs.2) fun g hg=>?_))
 have ew:IntKind.wrap .u64 f.1=f.1:=wrap_u64 hf.1 (by omega)
 rw [ew]
 have sc:Scn ⟨d.1,a.1,r.1,x.1,w.1,a2h.mk 0 f.1 (List.replicate (1+n.1).toNat (b5f.mk (b0y.mk 0 [] 0) [] 0 0)),c.1,fl.1,s.1,g.1⟩ :=
  ⟨d1,d3,d2,a1,hr.1,x1,w2,w1,hf.1,by show f.1≤_;omega,by show (List.replicate _ _).length≤1000;rw [List.length_replicate];omega,hc.1,by show c.1≤63;omega,hs.1,hg.1⟩
 have sA:=d6k sc
 obtain ⟨m,em,m0,t⟩:=d15 sA rfl
 simp only at em
 have sv:=d0w sA t
 rw [em]
 simp only [xX]
 rw [d4w sv]
 simp only [xX]
 rw [c4z sv]
 simp only [xX]
 have tro:=t.ro;have tde:=t.de
 simp only at tro tde
 refine Ok.jn (P:=fun o:Fl Unit Bool=>o=.nx ()) (Ok.ite (fun e=>by simp [m0] at e) fun _=>Ok.ite (fun e=>by simp at e) fun _=>Ok.ite (fun e=>by simp at e) fun _=>?_) fun o ho=>?_
 ·rw [show f7u m.1=some (m.1.Rotated&&m.1.Dead) from rfl]
  simp only [xX]
  rw [c7f hs.1,←tro]
  simp only [xX]
  refine Ok.ite (fun e=>?_) fun e=>?_
  ·rw [d1n hg.1,←tde]
   simp only [xX]
   refine Ok.ite (fun e2=>?_) fun _=>Ok.ret rfl
   rw [e] at e2
   simp at e2
  ·refine Ok.ite (fun e2=>?_) fun _=>Ok.ret rfl
   rw [e] at e2
   simp at e2
 subst ho
 rw [a6o,b3y hr.1]
 simp only [xX]
 have fl24:(finds r.1 f.1).length≤24:=by
  have:=b7r (fun c:l9=>decide (c.Fingerprint=f.1)) r.1.Credentials 0
  have:=hr.1.2.1
  unfold finds;omega
 refine Ok.bind (P:=fun o:Fl l7 Bool=>∃x,o=.nx x∧a4r x∧∀fp,finds x fp=finds r.1 fp) (Ok.for (fun x=>a4r x∧(∀fp,finds x fp=finds r.1 fp)∧x.Credentials.length=r.1.Credentials.length) _ 0 r.1 ⟨hr.1,fun _=>rfl,rfl⟩ (fun k y x' hy hI=>?_) fun s hs=>⟨s,rfl,hs.1,hs.2.1⟩) fun o ho=>?_
 ·obtain ⟨i1,i2,i3⟩:=hI
  obtain ⟨j,j1,j2,_⟩:=b7n.1 hy
  obtain rfl:y=(j:Int):=by omega
  rw [←i3] at j1
  obtain ⟨r1,r2,r3⟩:=e5a i1 j1
  unfold g5t
  have hfrom:=(i1.2.2.2.1 _ (a8o j1))
  obtain ⟨_,_,_,_,b1,b2,b3⟩:=hfrom
  refine Ok.grp (Ok.ite (fun e=>by simp at e;omega) fun _=>Ok.chk (u6.2 ⟨by omega,by omega⟩) (Ok.chk (z8 (by rw [xU];omega) (by rw [xU];omega)) ?_))
  rw [xU,c7d i1 j1]
  simp only [xX,decide_true,w4,vM]
  rw [ew,b3y r1,r2,i2]
  simp only [xX]
  rw [c8m _ (by omega)]
  exact Ok.ret ⟨r1,fun fp=>by rw [r2,i2],by rw [r3,i3]⟩
 ·obtain ⟨x',rfl,x'1,x'2⟩:=ho
  rw [a6o,c9z hr.1 x'1 x'2,em]
  simp only [xX]
  rw [d7g sc.d sc.a sc.c0 sc.c1]
  simp only [xX]
  have hx:=d3n d.1 a.1 c.1
  have trd:=t.rd
  simp only at trd
  have le:decide (m.1.Readers≤((b5s d.1 a.1 c.1).length:Int))=true:=wT (by rw [trd,hx];split<;>omega)
  simp only [m0,decide_true,beq_self_eq_true,w6,le]
  refine Ok.grp (Ok.grp (Ok.jn (P:=fun b=>b=true) ?_ fun b hb=>?_))
  ·rw [b3t x' fun i hi=>by have:=(x'1.2.2.1 i hi).1.2.1;omega,wT x'1]
   exact Ok.ret rfl
  ·subst hb
   simp only [vO,d5m,xX,jn]
   exact Ok.ret rfl
theorem f1t {l:List Int}:a0s Tryz.prog 3 [.sl (l.map (V.int .i64))] [] (fun r H=>r=.bool true∧H=[]):=g3d.c.w (c1o l)
end Go.Ab