/- The reference's estates are the program's: what is valid. -/
import Derived.Test.YtbmjlaknnpmgpaaGreatDoorPA
import Derived.Test.YtbmjlaknnpmgpaaGreatDoorLI
import Derived.Test.YtbmjlaknnpmgpaaGreatDoorPO
import Derived.Test.YtbmjlaknnpmgpaaGreatDoorLG
set_option linter.all false
namespace Go.Ab
open Go.Proofs
theorem b5j (n lo hi:Int):F_q n lo hi=some (decide (lo≤n∧n≤hi)):=by simp [F_q,grp]
open Classical in
theorem d2j (a:l5) (x:o9) (h1:1≤a.Places) (h2:a.Places≤16):f3s a x=some (decide (xok a.Places x)):=by
 have hin:∀o:Option Bool,chk (a0p (a.Places - 1)) o=o:=fun o=>o8 (u6 (n:=a.Places - 1) (by omega) (by omega))
 obtain ⟨T,K,P,pr,U,C,F⟩:=x
 simp only [f3s,b5j,xZ,jn,grp,hin,decide_true,Bool.true_and]
 by_cases t1:0≤T∧T≤1099511627776
 ·by_cases t2:0≤P∧P≤a.Places - 1
  ·simp only [t1,t2,and_self,decide_true,w6,vO]
   by_cases k1:K=1
   ·subst k1
    by_cases c1:U=0<;>by_cases c2:C=0<;>by_cases c3:F=0<;>simp [xok,c1,c2,c3,t1,t2]
   by_cases k2:K=2
   ·subst k2
    by_cases c1:U=0<;>by_cases c2:C=0<;>by_cases c3:F=0<;>simp [xok,c1,c2,c3,t1,t2]
   by_cases k3:K=3
   ·subst k3
    by_cases c1:pr=0<;>by_cases c2:C=0<;>by_cases c3:F=0<;>by_cases c4:T<U<;>simp [xok,c1,c2,c3,c4,t1,t2]
   by_cases k4:K=4
   ·subst k4
    by_cases c1:pr=0<;>by_cases c2:C=0<;>by_cases c3:F=0<;>by_cases c4:U=0<;>simp [xok,c1,c2,c3,c4,t1,t2]
   by_cases k5:K=5
   ·subst k5
    by_cases c1:pr=0<;>by_cases c2:U=0<;>by_cases c3:F=0<;>simp [xok,c1,c2,c3,t1,t2]
   by_cases k6:K=6
   ·subst k6
    by_cases c1:pr=0<;>by_cases c2:U=0<;>by_cases c3:F=0<;>simp [xok,c1,c2,c3,t1,t2]
   by_cases k7:K=7
   ·subst k7
    by_cases c1:pr=0<;>by_cases c2:U=0<;>by_cases c3:C=0<;>by_cases c4:F=P<;>simp [xok,c1,c2,c3,c4,t1,t2]<;>omega
   ·simp [xok,k1,k2,k3,k4,k5,k6,k7,t1,t2]
  ·have:¬xok a.Places ⟨T,K,P,pr,U,C,F⟩:=fun h=>t2 ⟨h.2.2.1,h.2.2.2.1⟩
   simp [t1,t2,this]
 ·have:¬xok a.Places ⟨T,K,P,pr,U,C,F⟩:=fun h=>t1 ⟨h.1,h.2.1⟩
  simp [t1,this]
open Classical in
theorem b6h (a:l5) (h1:1≤a.Places) (h2:a.Places≤16) (hn:a.Events.length≤120):∀(l:List o9) (k:Nat) (last:Int),a.Events.drop k=l→(0<k→(a.Events.getD (k - 1) default).Time=last)→(k=0→last=0)→k≤a.Events.length →
  a10 (f7c a) l (k:Int) ()=some (if chain a.Places last l then .nx () else .ex false)
 | [],k,last,hd,hl,h0,hk=>by simp [a10,chain]
 | x :: r,k,last,hd,hl,h0,hk=>by
  have hlt:k<a.Events.length:=by
   rcases Nat.lt_or_ge k a.Events.length with h|h
   ·exact h
   ·rw [List.drop_eq_nil_of_le h] at hd;cases hd
  rw [List.drop_eq_getElem_cons hlt] at hd
  obtain ⟨e1,e2⟩:=List.cons.inj hd
  have hx:(a.Events.getD (k+1 - 1) default)=x:=by rw [Nat.add_sub_cancel,zE,zJ hlt];exact e1
  have ih:=fun last h=>b6h a h1 h2 hn r (k+1) last e2 h (by omega) hlt
  simp only [a10,f7c,d2j a x h1 h2,xZ,chain]
  by_cases c:xok a.Places x
  ·simp only [c,decide_true,w6,vO,true_and]
   have ih':=ih x.Time (fun _=>by rw [hx])
   rw [show ((k+1:Nat):Int)=(k:Int)+1 by simp] at ih'
   by_cases ck:0<k
   ·have e3:decide (0<(k:Int))=true:=wV (by omega)
    have e4:a0p ((k:Int) - 1)=true:=u6 (by omega) (by omega)
    have e5:inb ((k:Int) - 1) a.Events.length=true:=q9.2 ⟨by omega,by omega⟩
    have e6:((k:Int) - 1).toNat=k - 1:=by omega
    simp only [e3,vQ,o8 e4,o8 e5,e6,hl ck]
    by_cases c3:x.Time<last
    ·have:¬last≤x.Time:=by omega
     simp [c3,this,a1p]
    ·have:last≤x.Time:=by omega
     simp [c3,this,a1t,ih']
   ·have e3:decide (0<(k:Int))=false:=wI (by omega)
    have hk0:k=0:=by omega
    have:last≤x.Time:=by rw [h0 hk0];exact c.1
    simp only [e3,vO,xZ,a1t,this,true_and,ih']
  ·simp [c,a1p]
open Classical in
theorem valid_eq (a:l5):F_r a=some (decide (Good a)):=by
 simp only [F_r,b5j,xZ,grp]
 by_cases c:1≤a.Places∧a.Places≤16
 ·by_cases c2:a.Events.length≤120
  ·have c':(!decide (1≤a.Places∧a.Places≤16)||decide (120<(a.Events.length:Int)))=false:=by simp [c];omega
   have h:=b6h a c.1 c.2 c2 a.Events 0 0 rfl (fun h=>by omega) (fun _=>rfl) (by omega)
   simp only [show ((0:Nat):Int)=0 from rfl] at h
   simp only [c',vO,h,xZ]
   by_cases hc:chain a.Places 0 a.Events
   ·have:Good a:=(b1k a).2 ⟨c,c2,hc⟩
    simp [this,hc,a1t]
   ·have:¬Good a:=fun h=>hc ((b1k a).1 h).2.2
    simp [this,hc,a1p]
  ·have c':(!decide (1≤a.Places∧a.Places≤16)||decide (120<(a.Events.length:Int)))=true:=by simp;omega
   have:¬Good a:=fun h=>c2 h.len
   simp only [c',vQ,this,decide_false]
 ·have:¬Good a:=fun h=>c ⟨h.lo,h.hi⟩
  simp [c,this]
open Classical in
theorem a8e (a:l5) (p:Int):e0b a p=F_3 a p:=by
 rw [b1i]
 simp only [e0b,valid_eq,xZ,jn]
 by_cases h:Good a
 ·have:=h.lo;have:=h.hi
  simp [h,b5j,o8 (u6 (n:=a.Places - 1) (by omega) (by omega))]
 ·simp [h]
theorem b2n (a:l5) (p:Int):(F_3 a p=some true∧Good a∧0≤p∧p≤a.Places - 1)∨F_3 a p=some false:=by
 classical
 rw [b1i]
 by_cases h:Good a∧0≤p∧p≤a.Places - 1
 ·left;exact ⟨congrArg some (wV h),h⟩
 ·right;exact congrArg some (wI h)
theorem a9d {β:Type} (q k:Int) (v:β):∀m:List (Int×β),a5o q (a7q k v m)=if q=k then some v else a5o q m
 | []=>by by_cases e:q=k<;>simp [a7q,a5o,e]
 | (a,b)::r=>by
  by_cases e:k=a
  ·subst e
   by_cases e2:q=k<;>simp [a7q,a5o,e2]
  ·simp only [a7q,if_neg e,a5o,a9d q k v r]
   by_cases e2:q=a
   ·subst e2
    have:¬q=k:=fun h=>e h.symm
    simp [this]
   ·simp [e2]
theorem b05 {β:Type} {q:Int}:∀{m:List (Int×β)},q∉m.map Prod.fst→a5o q m=none
 | [],h=>rfl
 | (a,b)::r,h=>by
  simp only [w5,w4,not_or] at h
  simp only [a5o,if_neg h.1,b05 h.2]
theorem b8e {β:Type} {q:Int}:∀{m:List (Int×β)},q∈m.map Prod.fst→∃v,a5o q m=some v
 | (a,b)::r,h=>by
  by_cases e:q=a
  ·exact ⟨b,by simp [a5o,e]⟩
  ·have:q∈r.map Prod.fst:=by simpa [e] using h
   obtain ⟨v,hv⟩:=b8e this
   exact ⟨v,by simp [a5o,e,hv]⟩
theorem c09 {β:Type} (q:Int) (m:List (Int×β)):(a5o q m).isSome=decide (q∈m.map Prod.fst):=by
 by_cases h:q∈m.map Prod.fst
 ·obtain ⟨v,hv⟩:=b8e h
  rw [hv];exact (wV h).symm
 ·rw [b05 h];exact (wI h).symm
theorem a9e {β:Type} (q k:Int):∀m:List (Int×β),(m.map Prod.fst).Nodup→a5o q (b8g k m)=if q=k then none else a5o q m
 | [],h=>by simp [b8g,a5o]
 | (a,b)::r,h=>by
  simp only [w5,List.nodup_cons] at h
  by_cases e:k=a
  ·subst e
   by_cases e2:q=k
   ·subst e2
    simp only [b8g,if_true]
    exact b05 h.1
   ·simp [b8g,a5o,e2]
  ·simp only [b8g,if_neg e,a5o,a9e q k r h.2]
   by_cases e2:q=a
   ·subst e2
    have:¬q=k:=fun h=>e h.symm
    simp [this]
   ·simp [e2]
theorem b2t (p t:Int) (l:List o9):((grf p t l).map Prod.fst).Nodup:=by rw [b60];exact b2o p t l
theorem c1v (p t:Int) (l:List o9) (x:o9):grf p t (l++[x])=gst p t l.length x (grf p t l):=by
 simp only [grf,a6d,a8w,Int.zero_add]
def told (p t q:Int) (l:List o9) (n:Nat):Prop :=
 n<l.length∧(l.getD n default).Kind=1∧(l.getD n default).Place=p∧(l.getD n default).Principal=q∧(l.getD n default).Time≤t∧∀y∈l.drop (n+1),¬(y.Kind=2∧y.Place=p∧y.Principal=q∧y.Time≤t)
theorem a7v {p t q:Int} {l:List o9} {n:Nat} {x:o9} (h:told p t q l n) (hx:¬(x.Kind=2∧x.Place=p∧x.Principal=q∧x.Time≤t)):told p t q (l++[x]) n:=by
 obtain ⟨h1,h2,h3,h4,h5,h6⟩:=h
 have e:(l++[x]).getD n default=l.getD n default:=by rw [zE,zE,zH h1]
 refine ⟨by simp;omega,by rw [e];exact h2,by rw [e];exact h3,by rw [e];exact h4,by rw [e];exact h5,fun y hy=>?_⟩
 rw [List.drop_append_of_le_length (by omega),wN,xI] at hy
 rcases hy with hy|rfl
 ·exact h6 y hy
 ·exact hx
theorem c3v (p t q:Int) (l:List o9) (k:Int) (h:a5o q (grf p t l)=some k):∃n:Nat,k=n∧told p t q l n:=by
 induction l using a1y generalizing k with
 | h0=>cases h
 | h1 l x ih =>
  rw [c1v] at h
  unfold gst at h
  split at h
  ·rename_i c
   obtain ⟨n,e,hn⟩:=ih k h
   exact ⟨n,e,a7v hn (by omega)⟩
  ·rename_i c
   split at h
   ·rename_i c2
    rw [a9d] at h
    split at h
    ·rename_i c3
     cases h
     refine ⟨l.length,rfl,by simp,?_⟩
     have e:(l++[x]).getD l.length default=x:=by simp
     rw [e]
     refine ⟨c2,by omega,c3.symm,by omega,fun y hy=>?_⟩
     rw [List.drop_eq_nil_of_le (by simp)] at hy
     cases hy
    ·obtain ⟨n,e,hn⟩:=ih k h
     exact ⟨n,e,a7v hn (by omega)⟩
   ·split at h
    ·rw [a9e _ _ _ (b2t p t l)] at h
     split at h
     ·cases h
     ·rename_i c3
      obtain ⟨n,e,hn⟩:=ih k h
      exact ⟨n,e,a7v hn fun hh=>c3 hh.2.2.1.symm⟩
    ·obtain ⟨n,e,hn⟩:=ih k h
     exact ⟨n,e,a7v hn (by omega)⟩
open Classical in
theorem b4c {d:d9} (g:a1g d) (p:Int):e1j d p=some (decide (rdr d p)):=by
 have hk:=g.kl
 have hx:F_h d p=some (decide (0≤p∧p<d.Kinds.length)):=by
  unfold F_h
  rw [o8 (a3y (by omega) (by omega))]
  simp only [F_p,grp,xZ]
  congr 1
  by_cases q:0≤p∧p<(d.Kinds.length:Int)
  ·rw [wV q,wV q.1,wV (show p≤(d.Kinds.length:Int) - 1 by omega)];rfl
  ·rw [wI q]
   by_cases q1:0≤p
   ·rw [wV q1,wI (show ¬p≤(d.Kinds.length:Int) - 1 by omega)];rfl
   ·rw [wI q1];rfl
 unfold e1j
 simp only [hx,xZ,jn]
 by_cases q:0≤p∧p<(d.Kinds.length:Int)
 ·simp only [wV q,vQ,o8 (q9.2 q),xZ]
  by_cases w:d.Kinds.getD p.toNat default=2
  ·have:¬rdr d p:=fun h=>h.2.2 w
   rw [wV w,wI this];rfl
  ·have:rdr d p:=⟨q.1,q.2,w⟩
   rw [wI w,wV this];rfl
 ·have:¬rdr d p:=fun h=>q ⟨h.1,h.2.1⟩
  simp [wI q,this]
def e3r (p q t:Int) (i:Int) (x:o9) (s:Int):Int :=
 if t<x.Time∨x.Place≠p∨x.Principal≠q then s else if x.Kind=1 then i else if x.Kind=2 then -1 else s
theorem c5y (p q t k:Int) (x:o9) (s:Int):f6z p q t k x s=some (e3r p q t k x s):=by
 simp only [f6z,grp,e3r]
 by_cases c:t<x.Time∨x.Place≠p∨x.Principal≠q
 ·have c':(decide (t<x.Time)||!decide (x.Place=p)||!decide (x.Principal=q))=true:=by
   simp only [wT,xO,xX,zK];omega
  simp only [c',vQ,if_pos c]
 ·have c':(decide (t<x.Time)||!decide (x.Place=p)||!decide (x.Principal=q))=false:=by
   simp only [xE,zK,Bool.not_eq_false',xO];omega
  simp only [c',vO,if_neg c]
  by_cases c2:x.Kind=1
  ·simp [c2]
  ·by_cases c3:x.Kind=2<;>simp [c2,c3]
theorem b98 (p q t:Int) (l:List o9):a8w (e3r p q t) l 0 (-1)=(a5o q (grf p t l)).getD (-1):=by
 induction l using a1y with
 | h0=>rfl
 | h1 l x ih =>
  rw [a6d,c1v]
  simp only [a8w,Int.zero_add,ih,e3r,gst]
  by_cases c:t<x.Time∨x.Place≠p
  ·rw [if_pos (by omega),if_pos c]
  ·rw [if_neg c]
   by_cases cq:x.Principal=q
   ·rw [if_neg (by omega)]
    by_cases c2:x.Kind=1
    ·rw [if_pos c2,if_pos c2,a9d,if_pos cq.symm];rfl
    ·rw [if_neg c2,if_neg c2]
     by_cases c3:x.Kind=2
     ·rw [if_pos c3,if_pos c3,a9e _ _ _ (b2t p t l),if_pos cq.symm];rfl
     ·rw [if_neg c3,if_neg c3]
   ·have cq':¬q=x.Principal:=fun h=>cq h.symm
    rw [if_pos (by omega)]
    by_cases c2:x.Kind=1
    ·rw [if_pos c2,a9d,if_neg cq']
    ·rw [if_neg c2]
     by_cases c3:x.Kind=2
     ·rw [if_pos c3,a9e _ _ _ (b2t p t l),if_neg cq']
     ·rw [if_neg c3]
theorem c39 (a:l5) (p q t:Int):f3b a p q t=some ((a5o q (grf p t a.Events)).getD (-1)):=by
 simp only [f3b,a7p (e3r p q t) (c5y p q t),xZ,b98]
theorem c08 {p t q k:Int} {l:List o9} (h:a5o q (grf p t l)=some k):0≤k:=by
 obtain ⟨n,rfl,_⟩:=c3v p t q l k h;omega
theorem a7c (n:Nat):((List.range n).map fun i:Nat=>(i:Int)).Pairwise fun x y=>x<y:=by
 rw [List.pairwise_map]
 exact List.pairwise_lt_range.imp fun h=>by omega
theorem b1x (a:l5) (p t:Int):e1y a p t=F_e a p t:=by
 simp only [e1y,a8e]
 rcases b2n a p with ⟨h,g,_⟩|h
 ·rw [a9w t g.len h,h]
  simp only [xZ,w6,vO]
  have key:∀q:Int,decide (0≤(a5o q (grf p t a.Events)).getD (-1))=decide (q∈a2w p t a.Events):=fun q=>by
   have e:(a5o q (grf p t a.Events)).isSome=decide (q∈a2w p t a.Events):=by rw [c09,b60]
   rw [←e]
   cases ha:a5o q (grf p t a.Events) with
   | none=>rfl
   | some k=>simpa using c08 ha
  refine Ok.eq (Ok.bind (Ok.loop (Q:=fun r=>r=c4p (a2w p t a.Events)) (fun x=>0≤x.1∧x.1≤24∧x.2=((List.range x.1.toNat).map fun i:Nat=>(i:Int)).filter fun q=>decide (q∈a2w p t a.Events)) (fun x=>(24 - x.1).toNat) (fun x hx=>?_) _ ⟨by omega,by omega,rfl⟩) fun r hr=>Ok.ret hr)
  obtain ⟨i,out⟩:=x
  obtain ⟨h1,h2,h3⟩:=hx
  simp only at h1 h2 h3
  subst h3
  have hl:=List.length_filter_le (fun q=>decide (q∈a2w p t a.Events)) ((List.range i.toNat).map fun i:Nat=>(i:Int))
  simp only [wP,List.length_range] at hl
  unfold g2r
  refine Ok.ite (fun c=>?_) fun c=>?_
  ·have c:i<24:=by simpa using c
   rw [c39]
   simp only [xZ,key]
   have e1:(i+1).toNat=i.toNat+1:=by omega
   refine Ok.jn (P:=fun j=>j=((List.range (i+1).toNat).map fun i:Nat=>(i:Int)).filter fun q=>decide (q∈a2w p t a.Events)) (Ok.ite (fun cc=>Ok.chk (a04 (by simp only [zV];omega)) (Ok.ret ?_)) fun cc=>Ok.ret ?_) fun j hj=>?_
   ·rw [e1,List.range_succ,List.map_append,List.filter_append]
    have e2:((i.toNat:Nat):Int)=i:=by omega
    simp only [w5,vH,e2,List.filter_cons,cc,if_true,List.filter_nil]
   ·rw [e1,List.range_succ,List.map_append,List.filter_append]
    have e2:((i.toNat:Nat):Int)=i:=by omega
    simp [e2,cc]
   ·refine Ok.chk (u6 (by omega) (by omega)) (Ok.ret ?_)
    exact ⟨⟨by show 0≤i+1;omega,by show i+1≤24;omega,hj⟩,by show (24 - (i+1)).toNat<(24 - i).toNat;omega⟩
  ·have c:¬i<24:=by simpa using c
   have:i=24:=by omega
   subst this
   refine Ok.ret ?_
   show _=_
   have hsr:(((List.range (Int.toNat 24)).map fun i:Nat=>(i:Int)).filter fun q=>decide (q∈a2w p t a.Events)).Pairwise (fun x y=>x≤y):=List.Pairwise.filter _ ((a7c 24).imp fun h=>vI h)
   refine a7x ?_ hsr (a4u _)
   refine List.Perm.trans ?_ (a7w _).symm
   refine (List.perm_ext_iff_of_nodup ?_ (b2o p t a.Events)).2 fun q=>?_
   ·exact List.Pairwise.filter _ ((a7c 24).imp fun h=>Int.ne_of_lt h)
   ·simp only [wM,vG,List.mem_range,xO]
    constructor
    ·rintro ⟨_,h⟩;exact h
    ·intro hq
     refine ⟨?_,hq⟩
     obtain ⟨w,hw,hw1,hw2,_⟩:=c71 hq
     have:=(g.ev w hw).2.2.2.2
     exact ⟨q.toNat,by show q.toNat<(24:Int).toNat;omega,by omega⟩
 ·simp [h,F_e]
def unl (p t:Int) (y:o9):Prop:=y.Kind=4∧y.Place=p∧y.Time≤t
def lnk (p t:Int) (x:o9):Prop:=x.Kind=3∧x.Place=p∧x.Time≤t∧t<x.Until
def a8g (p t:Int) (l:List o9) (k:Nat):Prop:=lnk p t (l.getD k default)∧∀y∈l.drop (k+1),¬unl p t y
open Classical in
noncomputable def c67 (p t:Int) (l:List o9):Nat→Int×Bool
 | 0=>(0,false)
 | n+1=>if a8g p t l n then ((n:Int),true) else c67 p t l n
theorem b4j {p t:Int} {l:List o9} {x:o9} {k:Nat} (hk:k<l.length):a8g p t (l++[x]) k↔a8g p t l k∧¬unl p t x:=by
 unfold a8g
 rw [show (l++[x]).getD k default=l.getD k default by rw [zE,zE,zH hk],List.drop_append_of_le_length (by omega)]
 simp only [wN,xI]
 constructor
 ·rintro ⟨h1,h2⟩
  exact ⟨⟨h1,fun y hy=>h2 y (.inl hy)⟩,h2 x (.inr rfl)⟩
 ·rintro ⟨⟨h1,h2⟩,h3⟩
  refine ⟨h1,fun y hy=>?_⟩
  rcases hy with hy|rfl
  ·exact h2 y hy
  ·exact h3
theorem b6s {p t:Int} {l:List o9} {x:o9}:∀{n:Nat},n≤l.length→(unl p t x→c67 p t (l++[x]) n=(0,false))∧(¬unl p t x→c67 p t (l++[x]) n=c67 p t l n)
 | 0,h=>⟨fun _=>rfl,fun _=>rfl⟩
 | n+1,h=>by
  have ih:=b6s (p:=p) (t:=t) (l:=l) (x:=x) (n:=n) (by omega)
  constructor
  ·intro hu
   have:¬a8g p t (l++[x]) n:=fun h'=>((b4j (by omega)).1 h').2 hu
   simp only [c67,if_neg this,ih.1 hu]
  ·intro hu
   have:a8g p t (l++[x]) n↔a8g p t l n:=by rw [b4j (by omega)];exact ⟨fun h=>h.1,fun h=>⟨h,hu⟩⟩
   by_cases hh:a8g p t l n
   ·simp only [c67,if_pos (this.2 hh),if_pos hh]
   ·simp only [c67,if_neg (fun h=>hh (this.1 h)),if_neg hh,ih.2 hu]
theorem d0d (p t:Int) (l:List o9):c67 p t l l.length=lkf p t l 0 (0,false):=by
 induction l using a1y with
 | h0=>rfl
 | h1 l x ih =>
  rw [xK,zV,a9s]
  simp only [lkf,Int.zero_add,c67]
  have e:(l++[x]).getD l.length default=x:=by simp
  have ho:a8g p t (l++[x]) l.length↔lnk p t x:=by
   unfold a8g
   rw [e,List.drop_eq_nil_of_le (by simp)]
   simp
  rw [←ih]
  have hs:=b6s (p:=p) (t:=t) (l:=l) (x:=x) (vL l.length)
  unfold lst
  by_cases hl:lnk p t x
  ·rw [if_pos (ho.2 hl)]
   obtain ⟨h1,h2,h3,h4⟩:=hl
   rw [if_neg (by omega),if_neg (by omega),if_pos ⟨h1,h4⟩]
  ·rw [if_neg fun h=>hl (ho.1 h)]
   by_cases hu:unl p t x
   ·rw [hs.1 hu]
    obtain ⟨h1,h2,h3⟩:=hu
    rw [if_neg (by omega),if_pos h1]
   ·rw [hs.2 hu]
    by_cases c:t<x.Time∨x.Place≠p
    ·rw [if_pos c]
    ·rw [if_neg c]
     have:¬x.Kind=4:=fun h=>hu ⟨h,by omega,by omega⟩
     rw [if_neg this]
     have:¬(x.Kind=3∧t<x.Until):=fun h=>hl ⟨h.1,by omega,by omega,h.2⟩
     rw [if_neg this]
open Classical in
theorem e92 (p t:Int):∀m:List o9,a3g (fun y=>if unl p t y then some false else none) m=if ∀y∈m,¬unl p t y then none else some false
 | []=>by simp [a3g]
 | y :: r=>by
  by_cases hu:unl p t y
  ·have:¬∀z∈y::r,¬unl p t z:=fun h=>h y (by simp) hu
   rw [if_neg this]
   simp only [a3g,if_pos hu]
  ·simp only [a3g,if_neg hu,e92 p t r]
   by_cases hr:∀z∈r,¬unl p t z
   ·have:∀z∈y::r,¬unl p t z:=fun z hz=>by
     rcases w4.1 hz with rfl|hz
     ·exact hu
     ·exact hr z hz
    rw [if_pos hr,if_pos this]
   ·have:¬∀z∈y::r,¬unl p t z:=fun h=>hr fun z hz=>h z (by simp [hz])
    rw [if_neg hr,if_neg this]
open Classical in
theorem d6r {a:l5} {p t:Int} (hn:a.Events.length≤120) (h:F_3 a p=some true) {k:Nat} (hk:k<a.Events.length):∃b,e0j a p (k:Int) t=some b∧(b=true↔a8g p t a.Events k):=by
 have i1:a0p ((a.Events.length:Int) - 1)=true:=u6 (by omega) (by omega)
 have i2:decide (0≤(k:Int)∧(k:Int)≤(a.Events.length:Int) - 1)=true:=wV (by omega)
 have i3:inb (k:Int) a.Events.length=true:=q9.2 ⟨by omega,by omega⟩
 have i4:a0p ((k:Int)+1)=true:=u6 (by omega) (by omega)
 have i5:inc ((k:Int)+1) (a.Events.length:Int) a.Events.length=true:=a4c.2 ⟨by omega,by omega,by omega⟩
 have i6:((k:Int)+1).toNat=k+1:=by omega
 simp only [e0j,a8e,h,xZ,w6,vO,o8 i1,b5j,i2,o8 i3,o8 i4,o8 i5,i6,xW,grp]
 by_cases c1:lnk p t (a.Events.getD k default)
 ·have c1':=c1
  unfold lnk at c1'
  have e:(!decide ((a.Events.getD k default).Kind=3)||!decide ((a.Events.getD k default).Place=p)||decide (t<(a.Events.getD k default).Time)||decide ((a.Events.getD k default).Until≤t))=false:=by
   simp only [xE,zK,Bool.not_eq_false',xO];omega
  simp only [e,vO]
  rw [a0k (fun y=>if unl p t y then some false else none) (a.Events.drop (k+1)) 0 fun k y _=>by
   simp only [g2s,grp]
   by_cases hu:unl p t y
   ·have e:(decide (y.Kind=4)&&decide (y.Place=p)&&decide (y.Time≤t))=true:=by
     simp only [wG,xO];exact ⟨⟨hu.1,hu.2.1⟩,hu.2.2⟩
    simp only [e,vQ,if_pos hu,flO]
   ·have e:(decide (y.Kind=4)&&decide (y.Place=p)&&decide (y.Time≤t))=false:=by
     cases hh:(decide (y.Kind=4)&&decide (y.Place=p)&&decide (y.Time≤t)) with
     | false=>rfl
     | true =>
      simp only [wG,xO] at hh
      exact absurd ⟨hh.1.1,hh.1.2,hh.2⟩ hu
    simp only [e,vO,if_neg hu,flO]]
  simp only [xZ,a2t,e92]
  by_cases hr:∀y∈a.Events.drop (k+1),¬unl p t y
  ·simp only [if_pos hr]
   exact ⟨true,rfl,fun _=>⟨c1,hr⟩,fun _=>rfl⟩
  ·simp only [if_neg hr]
   exact ⟨false,rfl,iff_of_false (by simp) fun h=>hr h.2⟩
 ·have e:(!decide ((a.Events.getD k default).Kind=3)||!decide ((a.Events.getD k default).Place=p)||decide (t<(a.Events.getD k default).Time)||decide ((a.Events.getD k default).Until≤t))=true:=by
   unfold lnk at c1
   simp only [wT,xO,xX,zK];omega
  simp only [e,vQ]
  exact ⟨false,rfl,iff_of_false (by simp) fun h=>c1 h.1⟩
open Classical in
theorem d6s {a:l5} {p t:Int} (hn:a.Events.length≤120) (h:F_3 a p=some true) {k:Nat} (hk:k<a.Events.length):e0j a p (k:Int) t=some (decide (a8g p t a.Events k)):=by
 obtain ⟨b,hb,hb2⟩:=d6r (t:=t) hn h hk
 rw [hb]
 by_cases c:a8g p t a.Events k
 ·rw [hb2.2 c,wV c]
 ·have:b=false:=by cases b with
   | false=>rfl
   | true=>exact absurd (hb2.1 rfl) c
  rw [this,wI c]
theorem c0x {a:l5} {p t:Int} (hn:a.Events.length≤120) (h:F_3 a p=some true):∀{n:Nat},n≤a.Events.length→∃r,loop (e0h a p t) ((n:Int) - 1)=some r∧Sum.elim (fun _=>some (0,false)) (fun u=>some u) r=some (c67 p t a.Events n)
 | 0,hl=>by
  rw [b2f]
  simp only [e0h]
  exact ⟨.inl (),rfl,rfl⟩
 | n+1,hl=>by
  classical
  rw [b2f]
  have e0:((n+1:Nat):Int) - 1=(n:Int):=by omega
  have e1:decide (0≤(n:Int))=true:=wV (by omega)
  rw [e0]
  simp only [e0h,e1,vQ,d6s hn h (show n<a.Events.length by omega),xZ,c67]
  by_cases c:a8g p t a.Events n
  ·simp only [c,decide_true,vQ,xZ,a1p,if_true]
   exact ⟨_,rfl,rfl⟩
  ·have i1:a0p ((n:Int) - 1)=true:=u6 (by omega) (by omega)
   simp only [c,decide_false,vO,o8 i1,xZ,a1t,if_false]
   exact c0x hn h (by omega)
theorem c0w {a:l5} {p t:Int} (hn:a.Events.length≤120) (h:F_3 a p=some false):∀{n:Nat},n≤a.Events.length→loop (e0h a p t) ((n:Int) - 1)=some (.inl ())
 | 0,hl=>by
  rw [b2f]
  rfl
 | n+1,hl=>by
  rw [b2f]
  have e0:((n+1:Nat):Int) - 1=(n:Int):=by omega
  have e1:decide (0≤(n:Int))=true:=wV (by omega)
  have i1:a0p ((n:Int) - 1)=true:=u6 (by omega) (by omega)
  rw [e0]
  simp only [e0h,e1,vQ,e0j,a8e,h,xZ,wY,vO,o8 i1,a1t]
  exact c0w hn h (by omega)
theorem b4e (a:l5) (p t:Int) (hn:a.Events.length≤120):e1w a p t=F_9 a p t:=by
 have i1:a0p ((a.Events.length:Int) - 1)=true:=u6 (by omega) (by omega)
 simp only [e1w,o8 i1]
 rcases b2n a p with ⟨h,_⟩|h
 ·rw [a6a t h,←d0d]
  obtain ⟨r,h1,h2⟩:=c0x (t:=t) hn h (vL _)
  rw [h1]
  exact h2
 ·rw [c6v t h,c0w hn h (vL _)]
  rfl
theorem a4h {d:d9} (hk:d.Kinds.length≤24) (p:Int):F_h d p=some (decide (0≤p∧p<d.Kinds.length)):=by
 unfold F_h
 rw [o8 (a3y (by omega) (by omega))]
 simp only [F_p,grp,xZ]
 congr 1
 by_cases q:0≤p∧p<(d.Kinds.length:Int)
 ·rw [wV q,wV q.1,wV (show p≤(d.Kinds.length:Int) - 1 by omega)];rfl
 ·rw [wI q]
  by_cases q1:0≤p
  ·rw [wV q1,wI (show ¬p≤(d.Kinds.length:Int) - 1 by omega)];rfl
  ·rw [wI q1];rfl
theorem a6g {d:d9} (g:a1g d):F_c d=some true:=by
 have hk:=g.kl
 have he:=g.el
 have hin:∀x a b:Int,F_p x a b=some (decide (a≤x∧x≤b)):=fun x a b=>by simp [F_p,grp]
 refine Ok.eq ?_
 unfold F_c
 refine Ok.grp (Ok.ite (fun q=>?_) fun _=>Ok.bind (P:=fun o=>o=.nx ()) (Ok.for (fun _=>True) _ 0 () trivial (fun k x s hx _=>?_) fun s _=>rfl) fun o ho=>?_)
 ·simp only [wT,xO] at q;omega
 ·unfold f3f
  rw [hin,wV (g.kd x hx)]
  exact Ok.ret trivial
 subst ho
 rw [a1t]
 refine Ok.bind (P:=fun o=>o=.nx ()) (Ok.forI (all:=d.Events) (fun _ _=>True) _ [] 0 () rfl rfl trivial (fun pre x r s hw _=>?_) fun s _=>rfl) fun o ho=>by subst ho;exact Ok.ret rfl
 have hx:x∈d.Events:=by rw [hw];simp
 obtain ⟨m1,m2,m3,m4,m5,m6⟩:=g.ev x hx
 have hgr:c9f d x.Group=some true:=by
  unfold c9f
  rw [a4h hk,wV (show 0≤x.Group∧x.Group<(d.Kinds.length:Int) from ⟨m5.1,m5.2.1⟩)]
  simp only [xZ,vQ,jn,o8 (q9.2 ⟨m5.1,m5.2.1⟩),wV m5.2.2]
 have hp:pre.length<d.Events.length:=by rw [hw];simp
 have rest:Ok ((F_h d x.Principal).bind fun y251=>bif (!y251) then some (.ex false) else (c9f d x.Group).bind fun y252=>bif (!y252) then some (.ex false) else bif decide (x.Principal=x.Group) then some (.ex false) else some (.nx ())) (Fl.elim (fun _:Unit=>True) fun r:Bool=>(Fl.ex r:Fl Unit Bool)=.nx ()):=by
  rw [a4h hk,wV m4,hgr]
  simp only [xZ,w6,vO,wI m6]
  exact Ok.ret trivial
 unfold f2h
 rw [hin,hin,wV (show 1≤x.Kind∧x.Kind≤2 by omega),wV (show 0≤x.Time∧x.Time≤1099511627776 from ⟨m2,m3⟩)]
 simp only [xZ,w6,vO]
 refine Ok.ite (fun q=>?_) fun _=>rest
 have q:0<(pre.length:Int):=by simpa using q
 have h1:(pre.length:Int) - 1<d.Events.length:=by omega
 refine Ok.chk (a3y (by omega) (by omega)) (Ok.chk (q9.2 ⟨by omega,h1⟩) (Ok.ite (fun w=>?_) fun _=>rest))
 exfalso
 have w:=of_decide_eq_true w
 have hlt:pre.length - 1<d.Events.length:=by omega
 have e:d.Events.getD ((pre.length:Int) - 1).toNat default=d.Events[pre.length - 1]:=by
  rw [show ((pre.length:Int) - 1).toNat=pre.length - 1 by omega,zE,zJ hlt];rfl
 have e2:d.Events[pre.length]=x:=by simp [hw]
 have:=(List.pairwise_iff_getElem.1 g.srt) (pre.length - 1) pre.length hlt hp (by omega)
 rw [e2] at this
 rw [e] at w
 omega
theorem c2w {d:d9} (g:a1g d) {p:Int} (t:Int) (h0:0≤p) (h1:p<d.Kinds.length):F_s d p t=some (upl d p t):=by
 have hk:=g.kl
 simp only [F_s,a6g g,a4h hk,wV (show 0≤p∧p<(d.Kinds.length:Int) from ⟨h0,h1⟩),xZ,w6,vO]
 have hu:upF d.Kinds.length (d.Events.map fun e=>(e.Time,e.Kind,e.Principal,e.Group)) p t=some ((List.range d.Kinds.length).map (oul (dlk d t) d.Kinds.length (fun i=>decide (i=p.toNat)) d.Kinds.length)):=by
  unfold upF
  rw [o8,o8]
  ·simp [dlk]
  ·simp only [wF,vG]
   rintro _ ⟨e,he,rfl⟩
   obtain ⟨_,_,_,h4,h5,_⟩:=g.ev e he
   have e1:inb e.Principal 24=true:=q9.2 ⟨h4.1,by omega⟩
   have e2:inb e.Group 24=true:=q9.2 ⟨h5.1,by omega⟩
   simp [e1,e2]
  ·rw [q9.2 ⟨h0,h1⟩,wV hk];rfl
 rw [hu]
 generalize hy:(List.range d.Kinds.length).map (oul (dlk d t) d.Kinds.length (fun i=>decide (i=p.toNat)) d.Kinds.length)=y
 have hyl:y.length=d.Kinds.length:=by rw [←hy];simp
 have hyi:∀i,i<d.Kinds.length→gt y i=oul (dlk d t) d.Kinds.length (fun i=>decide (i=p.toNat)) d.Kinds.length i:=fun i hi=>by
  rw [←hy];simp [gt,zE,hi]
 have hpn:p.toNat<d.Kinds.length:=by omega
 have hRT:∀i,i<d.Kinds.length→(gt y i=true↔RT (dlk d t) d.Kinds.length p.toNat i):=fun i hi=>by
  rw [hyi i hi]
  constructor
  ·exact b6w (P:=fun i=>RT (dlk d t) d.Kinds.length p.toNat i) (fun a b ha hb h hl=>.step h ha hb hl) (fun i h=>by
    have:=of_decide_eq_true h
    subst this;exact .refl) _ i
  ·intro h
   induction h with
   | refl=>exact c1d (by simp) _
   | step h ha hb hl ih=>exact b4i hpn _ _ ha hb (ih ha) hl
 have ht:=c0i y (by omega)
 have hup:g4d=f6s:=rfl
 simp only [e1s] at ht
 simp only [xZ,hup]
 rw [ht]
 simp only [upl,hyl]
 congr 2
 refine List.filter_congr fun i hi=>?_
 have:=hRT i (List.mem_range.1 hi)
 cases e:gt y i with
 | true=>simp [this.1 e]
 | false =>
  have h:¬RT (dlk d t) d.Kinds.length p.toNat i:=fun h=>by rw [this.2 h] at e;cases e
  simp [h]
theorem d6a (l:List Int) (x:Int):d4w l x=some (decide (x∈l)):=by
 simp only [d4w]
 rw [a0k (fun y=>if y=x then some true else none) l 0 (fun k y _=>by by_cases e:y=x<;>simp [f6y,e,flO])]
 simp only [xZ,a2t]
 have:a3g (fun y=>if y=x then some true else none) l=if x∈l then some true else none:=by
  induction l with
  | nil=>rfl
  | cons y r ih =>
   by_cases e:y=x
   ·simp [a3g,e]
   ·have e':¬x=y:=fun h=>e h.symm
    simp [a3g,e,e',ih]
 rw [this]
 by_cases e:x∈l<;>simp [e]
open Classical in
theorem b97 {d:d9} {a:l5} {p pl t:Int} {U G:List Int} (h1:F_s d p t=some U) (h2:e1y a pl t=some G):f3a d a p pl t=some (decide (∃x∈G,x∈U)):=by
 simp only [f3a,h1,h2,xZ]
 rw [a0k (fun y=>if y∈U then some true else none) G 0 (fun k y _=>by by_cases e:y∈U<;>simp [g2q,d6a,e,flO])]
 simp only [xZ,a2t]
 have:a3g (fun y=>if y∈U then some true else none) G=if ∃x∈G,x∈U then some true else none:=by
  clear h1 h2
  induction G with
  | nil=>simp [a3g]
  | cons y r ih =>
   by_cases e:y∈U
   ·simp [a3g,e]
   ·simp only [a3g,if_neg e]
    rw [ih]
    simp [e]
 rw [this]
 by_cases e:∃x∈G,x∈U<;>simp [e]
open Classical in
theorem d69 {d:d9} {a:l5} (g:a1g d) (h:Good a) (p pl t:Int):f1r d a p pl t=some (decide (c4r d a p pl t)):=by
 simp only [f1r,a6g g,a8e,b4c g,b4e a pl t h.len,b1x,xZ,w6,vO]
 by_cases c1:0≤pl∧pl≤a.Places - 1
 ·have hk:=b1h h c1.1 c1.2
  simp only [hk,xZ,w6,vO]
  by_cases c:rdr d p
  ·simp only [wV c,w6,vO,a6a t hk,xZ]
   cases e:(lkf pl t a.Events 0 (0,false)).2 with
   | true =>
    simp only [vQ,jn,xZ]
    rw [wV (show c4r d a p pl t from ⟨⟨c,c1⟩,.inl e⟩)]
   | false =>
    rw [b97 (c2w g t c.1 c.2.1) (by rw [b1x];exact a9w t h.len hk)]
    simp only [vO,jn,xZ,b1e]
    congr 1
    refine decide_eq_decide.2 ⟨fun q=>⟨⟨c,c1⟩,.inr q⟩,fun q=>?_⟩
    rcases q.2 with q|q
    ·rw [e] at q;cases q
    ·exact q
  ·simp only [wI c,wY,vQ]
   rw [wI (fun q:c4r d a p pl t=>c q.1.1)]
 ·have hk:F_3 a pl=some false:=by
   rw [b1i,wI (fun q:Good a∧0≤pl∧pl≤a.Places - 1=>c1 q.2)]
  simp only [hk,xZ,wY,vQ]
  rw [wI (fun q:c4r d a p pl t=>c1 q.1.2)]
theorem b9s {a:l5} (g:Good a) (t:Int):Ok (f1s a t) fun n=>∃k:Nat,n=(k:Int)∧k≤a.Events.length∧(∀x∈a.Events.take k,x.Time≤t)∧∀x∈a.Events.drop k,t<x.Time:=by
 have hl:=g.len
 unfold f1s
 refine Ok.bind (Ok.loop (fun s:Int=>∃k:Nat,s=(k:Int)∧k≤a.Events.length∧∀x∈a.Events.take k,x.Time≤t) (fun s=>((a.Events.length:Int) - s).toNat) (fun s hs=>?_) _ ⟨0,rfl,by omega,by simp⟩) fun r hr=>Ok.ret hr
 obtain ⟨k,rfl,h1,h2⟩:=hs
 unfold g2t
 refine Ok.ite (fun q=>?_) fun q=>Ok.ret ⟨k,rfl,h1,h2,fun x hx=>?_⟩
 ·have q:(k:Int)<a.Events.length:=by simpa using q
  have hk:k<a.Events.length:=by omega
  have e:a.Events.getD (k:Int).toNat default=a.Events[k]:=by
   rw [xW,zE,zJ hk];rfl
  refine Ok.chk (q9.2 ⟨by omega,q⟩) ?_
  rw [e]
  refine Ok.ite (fun w=>Ok.chk (a3y (by omega) (by omega)) (Ok.ret ⟨⟨k+1,by simp,by omega,fun x hx=>?_⟩,by show ((a.Events.length:Int) - ((k:Int)+1)).toNat<((a.Events.length:Int) - (k:Int)).toNat;omega⟩)) fun w=>Ok.ret ⟨k,rfl,h1,h2,fun x hx=>?_⟩
  ·rw [List.take_succ,zJ hk] at hx
   simp only [Option.toList_some,wN,xI] at hx
   rcases hx with hx|rfl
   ·exact h2 x hx
   ·exact of_decide_eq_true w
  ·have w:¬a.Events[k].Time≤t:=of_decide_eq_false w
   rw [List.drop_eq_getElem_cons hk] at hx
   have hs:(a.Events.drop k).Pairwise fun x y=>x.Time≤y.Time:=g.srt.sublist (List.drop_sublist _ _)
   rw [List.drop_eq_getElem_cons hk,List.pairwise_cons] at hs
   rcases w4.1 hx with rfl|hx
   ·omega
   ·have:=hs.1 x hx;omega
 ·have q:¬(k:Int)<a.Events.length:=by simpa using q
  rw [List.drop_eq_nil_of_le (by omega)] at hx
  cases hx
theorem c8e {c t:Int}:∀{E:List o9} {s:Int→Bool},(∀x∈E,x.Time≤t)→cfo c t E s=E.foldl (fun s x=>cst c x s) s
 | [],s,_=>rfl
 | x::r,s,h=>by
  simp only [cfo,wQ,if_pos (h x (by simp))]
  exact c8e (E:=r) fun y hy=>h y (by simp [hy])
theorem d4g {c t:Int}:∀{E:List o9} {s:Int→Bool},(∀x∈E,t<x.Time)→cfo c t E s=s
 | [],s,_=>rfl
 | x::r,s,h=>by
  have:=h x (by simp)
  simp only [cfo,wQ,if_neg (show ¬x.Time≤t by omega)]
  exact d4g (E:=r) fun y hy=>h y (by simp [hy])
theorem d1p {a:l5} {c t:Int} {k:Nat} (h1:∀x∈a.Events.take k,x.Time≤t) (h2:∀x∈a.Events.drop k,t<x.Time):hld a c t=(a.Events.take k).foldl (fun s x=>cst c x s) fun _=>false:=by
 have:hld a c t=cfo c t (a.Events.drop k) (cfo c t (a.Events.take k) fun _=>false):=by
  simp only [hld,cfo]
  rw [←List.foldl_append,List.take_append_drop]
 rw [this,d4g h2,c8e h1]
def bof (l:List Bool) (s:Int→Bool):Prop:=∀i:Int,0≤i→i<l.length→l.getD i.toNat default=s i
theorem d9i {l:List Bool} {s:Int→Bool} (h:bof l s) {p:Int} {b:Bool} (hp:0≤p) (hl:p<l.length):bof (l.set p.toNat b) (upd s p b):=by
 intro i h0 h1
 rw [List.length_set] at h1
 simp only [upd,zE,xR]
 by_cases e:i=p
 ·subst e
  simp [show i.toNat<l.length by omega]
 ·rw [if_neg (by omega),if_neg e]
  have:=h i h0 h1
  rwa [zE] at this
theorem d0t {P c:Int} {l:List Bool} {s:Int→Bool} {x:o9} (k:Int) (h:xok P x) (hl:(l.length:Int)=P) (hw:bof l s):Ok (f7b c k x l) fun l'=>l'.length=l.length∧bof l' (cst c x s):=by
 obtain ⟨_,_,h3,h4,h5⟩:=h
 have hp:inb x.Place l.length=true:=q9.2 ⟨h3,by omega⟩
 have hP:=hw x.Place h3 (by omega)
 have fin:∀b b':Bool,b=b'→Ok (chk (inb x.Place l.length) (some (l.set x.Place.toNat b))) fun l'=>l'.length=l.length∧bof l' (upd s x.Place b'):=fun b b' e=>by
  subst e
  exact Ok.chk hp (Ok.ret ⟨by simp,d9i hw h3 (by omega)⟩)
 unfold f7b
 refine Ok.ite (fun q=>?_) fun q=>Ok.ite (fun q2=>?_) fun q2=>Ok.ite (fun q3=>?_) fun q3=>?_
 ·have q:x.Kind=5:=by simpa using q
  simp only [cst,if_pos q]
  refine Ok.chk hp (Ok.ite (fun w=>fin _ _ ?_) fun w=>fin _ _ ?_)
  ·rw [hP] at w;rw [w];rfl
  ·rw [hP] at w;rw [w];rfl
 ·have q:¬x.Kind=5:=by simpa using q
  have q2:x.Kind=6:=by simpa using q2
  simp only [cst,if_neg q,if_pos q2]
  refine Ok.chk hp (Ok.ite (fun w=>fin _ _ ?_) fun w=>fin _ _ ?_)
  ·rw [hP] at w;rw [w];rfl
  ·rw [hP] at w;rw [w];rfl
 ·have q:¬x.Kind=5:=by simpa using q
  have q2:¬x.Kind=6:=by simpa using q2
  have q3:x.Kind=7:=by simpa using q3
  simp only [cst,if_neg q,if_neg q2,if_pos q3]
  refine Ok.chk hp (Ok.ite (fun w=>fin _ _ ?_) fun w=>Ok.chk (q9.2 ⟨by omega,by omega⟩) (fin _ _ ?_))
  ·rw [hP] at w;rw [w];rfl
  ·rw [hP] at w;rw [w,hw x.From (by omega) (by omega)];rfl
 ·have q:¬x.Kind=5:=by simpa using q
  have q2:¬x.Kind=6:=by simpa using q2
  have q3:¬x.Kind=7:=by simpa using q3
  simp only [cst,if_neg q,if_neg q2,if_neg q3]
  exact Ok.ret ⟨rfl,hw⟩
theorem e3v {a:l5} (g:Good a) (c:Int) {k:Nat} (hk:k≤a.Events.length):Ok (f3d a c (k:Int)) fun l=>(l.length:Int)=a.Places∧bof l ((a.Events.take k).foldl (fun s x=>cst c x s) fun _=>false):=by
 have h2:=g.lo
 have h3:=g.hi
 unfold f3d
 refine Ok.chk (a2f.2 ⟨by omega,by omega,by omega⟩) (Ok.chk (a4c.2 ⟨by omega,by omega,by omega⟩) ?_)
 rw [xW]
 refine Ok.bind (Ok.foldI (all:=a.Events.take k) (fun pre l=>(l.length:Int)=a.Places∧bof l (pre.foldl (fun s x=>cst c x s) fun _=>false)) (a.Events.take k) [] 0 _ rfl rfl ⟨by simp;omega,fun i hi hl=>?_⟩ (fun pre x r s hw hs=>?_) fun s hs=>hs) fun s hs=>Ok.ret hs
 ·simp only [List.foldl_nil,List.length_replicate] at hl ⊢
  rw [zE,List.getElem?_replicate,if_pos (by omega)]
  rfl
 ·have hx:=g.ev x (List.mem_of_mem_take (i:=k) (by rw [hw];simp))
  refine Ok.mono (d0t _ hx hs.1 hs.2) fun l' hl'=>⟨by rw [hl'.1];exact hs.1,?_⟩
  simp only [List.foldl_append,wQ,List.foldl_nil]
  exact hl'.2
end Go.Ab
namespace Go.Ab
open Go.Proofs Classical
theorem b5k:∀(xs:List Bool) (k:Nat) (s:List Int),s.length+xs.length≤1000→a0d f7a xs (k:Int) s=some (s++((List.range xs.length).filter fun i=>xs.getD i false).map fun i:Nat=>((k+i:Nat):Int))
 | [],k,s,_=>by simp [a0d]
 | x::r,k,s,h=>by
  simp only [wC] at h
  have e1:((List.range (r.length+1)).filter fun i=>(x::r).getD i false)=(if x then [0] else [])++((List.range r.length).filter fun i=>r.getD i false).map fun i=>i+1:=by
   rw [List.range_succ_eq_map,List.filter_cons,List.filter_map]
   cases x<;>simp [Function.comp_def]
  have e2:((k:Int)+1)=((k+1:Nat):Int):=by omega
  have hm:(((List.range r.length).filter fun i=>r.getD i false).map fun i=>i+1).map (fun i:Nat=>((k+i:Nat):Int))=((List.range r.length).filter fun i=>r.getD i false).map fun i:Nat=>((k+1+i:Nat):Int):=by
   rw [List.map_map]
   refine List.map_congr_left fun i _=>?_
   simp only [Function.comp];omega
  rw [wC,e1,List.map_append,hm]
  simp only [a0d,f7a]
  cases x with
  | false =>
   simp only [vO,xZ]
   rw [e2,b5k r (k+1) s (by omega)]
   simp
  | true =>
   have hr:room (s.length+[(k:Int)].length) 8=true:=a3e (by simp;omega)
   simp only [vQ,o8 hr,xZ]
   rw [e2,b5k r (k+1) _ (by simp;omega)]
   simp
theorem c6b {a:l5} (g:Good a) {c:Int} (h0:0≤c) (h1:c≤63) (t:Int):f3c a c t=some (whr a c t):=by
 have hlo:=g.lo
 have hhi:=g.hi
 have hr:f1t a c=some true:=by
  simp only [f1t,valid_eq,wV g,xZ,wV h0,wV h1,jn,grp,vQ,w8]
 refine Ok.eq ?_
 simp only [f3c,hr,xZ,w6,vO]
 refine Ok.bind (b9s g t) fun n hn=>?_
 obtain ⟨k,rfl,k1,k2,k3⟩:=hn
 refine Ok.bind (e3v g c k1) fun l hl=>?_
 obtain ⟨l1,l2⟩:=hl
 have:=b5k l 0 [] (by simp;omega)
 rw [show ((0:Nat):Int)=0 from rfl] at this
 rw [this]
 refine Ok.ret ?_
 have e2:=d1p (c:=c) k2 k3
 rw [←e2] at l2
 rw [e2g g h0 h1]
 have e:l.length=a.Places.toNat:=by omega
 simp only [wL,vC,e]
 congr 1
 refine List.filter_congr fun i hi=>?_
 have hi:=List.mem_range.1 hi
 have:=l2 (i:Int) (by omega) (by omega)
 rw [xW] at this
 exact this
set_option maxRecDepth 20000
theorem c7m {T U:List Int} {q:Int→Bool} (hT:T.Pairwise fun x y=>x≤y) (hU:U.Pairwise fun x y=>x≤y) (h:∀t,t∈T↔t∈U):T.find? q=U.find? q:=by
 cases e:U.find? q with
 | none=>rw [List.find?_eq_none] at e ⊢;exact fun x hx=>e x ((h x).1 hx)
 | some t =>
  obtain ⟨t',e1,l1⟩:=b4r hT ((h t).2 (List.mem_of_find?_eq_some e)) (List.find?_some e)
  obtain ⟨t2,e2,l2⟩:=b4r hU ((h t').1 (List.mem_of_find?_eq_some e1)) (List.find?_some e1)
  rw [e] at e2;cases e2
  rw [e1,show t'=t by omega]
def e1a (d:d9) (p:Int):Prop:=p=-1∨rdr d p
theorem b4b {d:d9} {a:l5} (g:a1g d) (h:Good a) {c p:Int} (h0:0≤c) (h1:c≤63):e0c d a c p=some (decide (e1a d p)):=by
 by_cases hp:p=-1
 ·have:decide (e1a d p)=true:=wV (.inl hp)
  simp only [e0c,a6g g,valid_eq,wV h,wV h0,wV h1,wV hp,jn,grp,vQ,vO,xZ,w8,this]
 ·have:decide (e1a d p)=decide (rdr d p):=decide_eq_decide.2 ⟨fun e=>e.resolve_left hp,.inr⟩
  simp only [e0c,a6g g,valid_eq,wV h,wV h0,wV h1,wI hp,b4c g,jn,grp,vQ,vO,xZ,w8,this]
theorem d0m {d:d9} {a:l5} {c p t:Int} (hr:¬e1a d p):pla d a c p t=none:=by
 unfold pla
 rw [List.find?_eq_none]
 intro x _
 simp only [see,if_neg fun e=>hr (.inl e),xO]
 exact fun hm=>hr (.inr hm.1.1)
theorem c3g {d:d9} {a:l5} (g:a1g d) (h:Good a) {c p t:Int} (h0:0≤c) (h1:c≤63) (hr:e1a d p) (t0:0≤t) (t1:t≤1099511627776):f2z d a c p t=some (pla d a c p t).isSome:=by
 unfold f2z
 rw [b4b g h h0 h1,xZ,wV hr]
 simp only [grp,wI (show ¬t<0 by omega),wI (show ¬1099511627776<t by omega),w6,Bool.or_self,vO]
 rw [c6b h h0 h1,xZ]
 rw [a0k (fun x=>if see d a p t x then some true else none) (whr a c t) 0 fun k x hm=>by
  have hx:=c4w h h0 h1 t x hm
  by_cases hp:p=-1
  ·simp only [f6x,wV hp,vQ,b4e a x t h.len,a6a t (b1h h hx.1 hx.2),xZ,see,if_pos hp]
   cases (lkf x t a.Events 0 (0,false)).2<;>simp [flO]
  ·simp only [f6x,wI hp,vO,d69 g h,xZ,see,if_neg hp]
   by_cases q:c4r d a p x t<;>simp [q,flO]]
 simp only [xZ,a2t,a4q,pla]
 cases (whr a c t).find? (see d a p t)<;>rfl
theorem c2x {a:l5} (h:Good a):Ok (f3e a) fun ts=>ts.length≤a.Events.length∧(ts.Pairwise fun x y=>x≤y)∧∀t,t∈ts↔∃x∈a.Events,x.Time=t:=by
 have hl:=h.len
 unfold f3e
 rw [valid_eq,wV h,xZ,w6,vO]
 refine Ok.bind (Ok.foldI (all:=a.Events) (fun pre ts=>ts.length≤pre.length∧(ts.Pairwise fun x y=>x≤y)∧∀t,t∈ts↔∃x∈pre,x.Time=t) a.Events [] 0 _ rfl rfl ⟨vL _,List.Pairwise.nil,by simp⟩ (fun pre x r s hw hs=>?_) fun s hs=>hs) fun s hs=>Ok.ret hs
 obtain ⟨s1,s3,s2⟩:=hs
 have hp:pre.length<a.Events.length:=by rw [hw];simp
 have hsr:=h.srt
 rw [hw,List.pairwise_append] at hsr
 have hle:∀t∈s,t≤x.Time:=fun t ht=>by
  obtain ⟨y,hy,e⟩:=(s2 t).1 ht
  have:=hsr.2.2 y hy x (by simp)
  omega
 have hadd:(s++[x.Time]).length≤(pre++[x]).length∧((s++[x.Time]).Pairwise fun x y=>x≤y)∧∀t,t∈s++[x.Time]↔∃y∈pre++[x],y.Time=t:=by
  refine ⟨by simp;omega,?_,fun t=>?_⟩
  ·rw [List.pairwise_append]
   exact ⟨s3,by simp,fun t ht u hu=>by rw [xI] at hu;subst hu;exact hle t ht⟩
  rw [wN,s2,xI]
  constructor
  ·rintro (⟨y,hy,e⟩|rfl)
   ·exact ⟨y,List.mem_append_left _ hy,e⟩
   ·exact ⟨x,zU _ (xI.2 rfl),rfl⟩
  ·rintro ⟨y,hy,e⟩
   rcases wN.1 hy with hy|hy
   ·exact .inl ⟨y,hy,e⟩
   ·rw [xI] at hy;subst hy;exact .inr e.symm
 have hr:room (s.length+[x.Time].length) 8=true:=a3e (by simp only [zV];omega)
 unfold g2v
 refine Ok.ite (fun _=>Ok.chk hr (Ok.ret hadd)) fun c1=>?_
 have c1:=of_decide_eq_false c1
 refine Ok.chk (a3y (by omega) (by omega)) (Ok.chk (q9.2 ⟨by omega,by omega⟩) (Ok.ite (fun _=>Ok.chk hr (Ok.ret hadd)) fun c2=>Ok.ret ⟨by simp;omega,s3,fun t=>?_⟩))
 have c2:s.getD ((s.length:Int) - 1).toNat default=x.Time:=by simpa using c2
 have hm:x.Time∈s:=by
  rw [←c2,zE,zJ (by omega)]
  exact wD _
 rw [←hadd.2.2 t,wN,xI]
 exact ⟨.inl,fun e=>e.elim id fun e=>e▸hm⟩
theorem d01 {d:d9} {a:l5} (g:a1g d) (h:Good a):Ok (f3r d a) fun ts=>(ts.Pairwise fun x y=>x≤y)∧∀t,t∈ts↔t∈tms d a:=by
 have hl:=h.len
 have hd:=g.el
 unfold f3r
 refine Ok.bind (c2x h) fun s0 hs0=>Ok.bind (Ok.foldI (all:=d.Events) (fun pre ts=>ts.length≤120+pre.length∧(ts.Pairwise fun x y=>x≤y)∧∀t,t∈ts↔(∃x∈a.Events,x.Time=t)∨∃x∈pre,x.Time=t) d.Events [] 0 _ rfl rfl ⟨by simp;omega,hs0.2.1,fun t=>by rw [hs0.2.2];simp⟩ (fun pre x r s hw hs=>?_) fun s hs=>hs) fun s hs=>Ok.ret ⟨hs.2.1,fun t=>by rw [hs.2.2,b9m]⟩
 obtain ⟨s1,s3,s2⟩:=hs
 have hp:pre.length<d.Events.length:=by rw [hw];simp
 unfold g2u
 refine Ok.bind (P:=fun r:Int=>(0≤r∧r≤s.length)∧(∀y∈s.take r.toNat,y≤x.Time)∧∀y∈s.drop r.toNat,x.Time≤y) (Ok.loop (fun r:Int=>(0≤r∧r≤s.length)∧∀y∈s.take r.toNat,y≤x.Time) (fun r=>((s.length:Int) - r).toNat) (fun r hr=>?_) _ ⟨⟨vN 0,by omega⟩,by simp⟩) fun r hr=>?_
 ·obtain ⟨⟨r0,r1⟩,r2⟩:=hr
  unfold g3r
  refine Ok.ite (fun c=>?_) fun c=>Ok.ret ⟨⟨r0,r1⟩,r2,fun y hy=>?_⟩
  ·have c:=of_decide_eq_true c
   have hlt:r.toNat<s.length:=by omega
   have hg:s.getD r.toNat default=s[r.toNat]:=by rw [zE,zJ hlt];rfl
   refine Ok.chk (q9.2 ⟨r0,by omega⟩) (Ok.ite (fun c2=>Ok.chk (a3y (by omega) (by omega)) (Ok.ret ⟨⟨⟨by omega,by omega⟩,fun y hy=>?_⟩,by omega⟩)) fun c2=>Ok.ret ⟨⟨r0,r1⟩,r2,fun y hy=>?_⟩)
   ·have c2:=of_decide_eq_true c2
    rw [hg] at c2
    rw [show (r+1).toNat=r.toNat+1 by omega,List.take_succ_eq_append_getElem hlt] at hy
    rcases wN.1 hy with hy|hy
    ·exact r2 y hy
    ·rw [xI] at hy;omega
   ·have c2:=of_decide_eq_false c2
    rw [hg] at c2
    have hd:s.drop r.toNat=s[r.toNat]::s.drop (r.toNat+1):=List.drop_eq_getElem_cons hlt
    have hpw:=s3.drop (i:=r.toNat)
    rw [hd] at hy hpw
    rw [List.pairwise_cons] at hpw
    rcases w4.1 hy with rfl|hy
    ·omega
    ·have:=hpw.1 y hy;omega
  ·have c:=of_decide_eq_false c
   rw [List.drop_eq_nil_of_le (by omega)] at hy
   simp at hy
 ·obtain ⟨⟨r0,r1⟩,r2,r3⟩:=hr
  have key:s.take r.toNat++s.drop r.toNat=s:=List.take_append_drop _ _
  have ed:(s.drop r.toNat).take (s.length - r.toNat)=s.drop r.toNat:=zP (by simp)
  have hmem:∀t,(t∈s∨t=x.Time)↔(∃y∈a.Events,y.Time=t)∨∃y∈pre++[x],y.Time=t:=fun t=>by
   rw [s2]
   constructor
   ·rintro ((e|⟨y,hy,e⟩)|rfl)
    ·exact .inl e
    ·exact .inr ⟨y,List.mem_append_left _ hy,e⟩
    ·exact .inr ⟨x,zU _ (xI.2 rfl),rfl⟩
   ·rintro (e|⟨y,hy,e⟩)
    ·exact .inl (.inl e)
    ·rcases wN.1 hy with hy|hy
     ·exact .inl (.inr ⟨y,hy,e⟩)
     ·rw [xI] at hy;subst hy;exact .inr e.symm
  have hadd:(s.take r.toNat++([x.Time]++(s.drop r.toNat).take (s.length - r.toNat))).length≤120+(pre++[x]).length∧((s.take r.toNat++([x.Time]++(s.drop r.toNat).take (s.length - r.toNat))).Pairwise fun x y=>x≤y)∧∀t,t∈s.take r.toNat++([x.Time]++(s.drop r.toNat).take (s.length - r.toNat))↔(∃y∈a.Events,y.Time=t)∨∃y∈pre++[x],y.Time=t:=by
   rw [ed]
   refine ⟨by simp only [xK,wB,List.length_drop,zV];omega,?_,fun t=>?_⟩
   ·have hs:=s3
    rw [←key,List.pairwise_append] at hs
    rw [List.pairwise_append,List.singleton_append,List.pairwise_cons]
    refine ⟨hs.1,⟨r3,hs.2.1⟩,fun y hy z hz=>?_⟩
    rcases w4.1 hz with rfl|hz
    ·exact r2 y hy
    ·exact hs.2.2 y hy z hz
   rw [←hmem]
   have:t∈s↔t∈s.take r.toNat∨t∈s.drop r.toNat:=by rw [←wN,key]
   rw [this]
   simp only [wN,xI]
   constructor
   ·rintro (e|e|e)
    ·exact .inl (.inl e)
    ·exact .inr e
    ·exact .inl (.inr e)
   ·rintro ((e|e)|e)
    ·exact .inl e
    ·exact .inr (.inr e)
    ·exact .inr (.inl e)
  have add:Ok (chk (inc 0 r s.length) (chk (inc r (s.length:Int) s.length) (chk (room ([x.Time].length+((s.drop r.toNat).take (s.length - r.toNat)).length) 8) (chk (b96 0 r.toNat s.length ([x.Time]++(s.drop r.toNat).take (s.length - r.toNat)).length 8) (some (s.take r.toNat++([x.Time]++(s.drop r.toNat).take (s.length - r.toNat)))))))) fun ts=>ts.length≤120+(pre++[x]).length∧(ts.Pairwise fun x y=>x≤y)∧∀t,t∈ts↔(∃y∈a.Events,y.Time=t)∨∃y∈pre++[x],y.Time=t :=
   Ok.chk (a4c.2 ⟨by omega,by omega,by omega⟩) (Ok.chk (a4c.2 ⟨by omega,by omega,by omega⟩) (Ok.chk (a3e (by rw [ed];simp only [zV,List.length_drop];omega)) (Ok.chk (b6r.2 ⟨by omega,by rw [ed];simp only [xK,zV,List.length_drop];omega⟩) (Ok.ret hadd))))
  refine Ok.ite (fun _=>add) fun c1=>?_
  have c1:=of_decide_eq_false c1
  refine Ok.chk (q9.2 ⟨r0,by omega⟩) (Ok.ite (fun _=>add) fun c2=>Ok.ret ⟨by simp;omega,s3,fun t=>?_⟩)
  have c2:s.getD r.toNat default=x.Time:=by simpa using c2
  have hm:x.Time∈s:=by
   rw [←c2,zE,zJ (by omega)]
   exact wD _
  rw [←hmem]
  exact ⟨.inl,fun e=>e.elim id fun e=>e▸hm⟩
theorem c5p {d:d9} {a:l5} (g:a1g d) (h:Good a) {c p:Int} (h0:0≤c) (h1:c≤63):f2y d a c p=some (d49 (sin d a c p)):=by
 refine Ok.eq ?_
 unfold f2y
 rw [b4b g h h0 h1,xZ]
 by_cases hr:e1a d p
 ·rw [wV hr,w6,vO]
  refine Ok.bind (d01 g h) fun ts hts=>?_
  rw [a0k (fun t=>if (pla d a c p t).isSome then some (t,true) else none) ts 0 fun k t ht=>by
   have hb:0≤t∧t≤1099511627776:=by
    rcases b9m.1 ((hts.2 t).1 ht) with ⟨x,hx,rfl⟩|⟨x,hx,rfl⟩
    ·exact ⟨(h.ev x hx).1,(h.ev x hx).2.1⟩
    ·exact ⟨(g.ev x hx).2.1,(g.ev x hx).2.2.1⟩
   simp only [g2p,c3g g h h0 h1 hr hb.1 hb.2,xZ]
   cases pla d a c p t<;>simp [flO]]
  simp only [xZ,a2t,a4q]
  have e:(ts.find? fun t=>(pla d a c p t).isSome)=sin d a c p:=c7m hts.1 (c2o d a) hts.2
  rw [e]
  cases sin d a c p<;>exact Ok.ret rfl
 ·rw [wI hr,wY,vQ]
  have:sin d a c p=none:=by
   unfold sin
   rw [List.find?_eq_none]
   intro t _
   rw [d0m hr];simp
  rw [this]
  exact Ok.ret rfl
theorem d6e {d:d9} {a:l5} (g:a1g d) (h:Good a) {c:Int} (h0:0≤c) (h1:c≤63):F_7 d a c=some (b1b d a c,0):=by
 refine Ok.eq ?_
 have hk:=g.kl
 unfold F_7
 rw [a6g g,xZ,w6,vO,valid_eq,wV h,xZ,w6,vO]
 refine Ok.grp (Ok.ite (fun q=>by simp only [wT,xO] at q;omega) fun _=>?_)
 refine Ok.bind (P:=fun r=>r=b1b d a c) (Ok.loop (fun s:Int×List a00=>∃n:Nat,n≤d.Kinds.length+1∧s.1=(n:Int) - 1∧s.2=b0p d a c n (-1)) (fun s=>((d.Kinds.length:Int) - s.1).toNat) (fun s hs=>?_) _ ⟨0,by omega,rfl,rfl⟩) fun r hr=>Ok.ret (by rw [hr])
 obtain ⟨p,l⟩:=s
 obtain ⟨n,hn,e1,e2⟩:=hs
 simp only at e1 e2
 subst e1 e2
 unfold g2o
 refine Ok.ite (fun q=>?_) fun q=>?_
 ·have q:(n:Int) - 1<d.Kinds.length:=by simpa using q
  have hl:=a6v d a c n (-1)
  refine Ok.jn (P:=fun j=>j=b0p d a c (n+1) (-1)) (Ok.bind (Ok.of (c5p g h h0 h1) rfl) fun y hy=>?_) fun j hj=>Ok.chk (a3y (by omega) (by omega)) (Ok.ret ⟨⟨n+1,by omega,by simp,hj⟩,?_⟩)
  ·subst hy
   rw [b39,show (-1:Int)+n=n - 1 by omega]
   cases sin d a c ((n:Int) - 1) with
   | none=>exact Ok.ret (by simp)
   | some t=>exact Ok.chk (a3e (by simp;omega)) (Ok.ret rfl)
  ·show ((d.Kinds.length:Int) - ((n:Int) - 1+1)).toNat<((d.Kinds.length:Int) - ((n:Int) - 1)).toNat
   omega
 ·have q:¬(n:Int) - 1<d.Kinds.length:=by simpa using q
  have:n=d.Kinds.length+1:=by omega
  subst this
  exact Ok.ret rfl
end Go.Ab
namespace Go.Ab
open Go.Proofs
section search
variable {L:Nat→Nat→Bool} {n:Nat}
theorem b6l {a b:Nat} {f:Nat→Bool} {i:Nat} (h:f i=true):Go.Proofs.stp L a b f i=true:=by
 simp only [Go.Proofs.stp];split
 ·subst_vars;simp [h]
 ·exact h
theorem a8o {a:Nat} {f:Nat→Bool} {i:Nat} (h:f i=true):∀b,Go.Proofs.inn L a f b i=true
 | 0=>h
 | b+1=>b6l (a8o h b)
theorem a4k {f:Nat→Bool} {i:Nat} (h:f i=true):∀a,Go.Proofs.midd L n f a i=true
 | 0=>h
 | a+1=>a8o (a4k h a) n
theorem d8a {a:Nat} {f:Nat→Bool} {i b:Nat} (h:Go.Proofs.inn L a f b i=true):∀c,b≤c→Go.Proofs.inn L a f c i=true:=by
 intro c hc
 induction c with
 | zero =>
  have:b=0:=by omega
  subst this;exact h
 | succ c ih =>
  by_cases e:b=c+1
  ·subst e;exact h
  ·exact b6l (ih (by omega))
theorem d0x {f:Nat→Bool} {i b:Nat} (h:Go.Proofs.midd L n f b i=true):∀c,b≤c→Go.Proofs.midd L n f c i=true:=by
 intro c hc
 induction c with
 | zero =>
  have:b=0:=by omega
  subst this;exact h
 | succ c ih =>
  by_cases e:b=c+1
  ·subst e;exact h
  ·exact a8o (ih (by omega)) n
theorem c3n {f:Nat→Bool} {a b:Nat} (ha:a<n) (hb:b<n) (h:f a=true) (hl:L a b=true):Go.Proofs.midd L n f n b=true:=by
 refine d0x (b:=a+1) ?_ n (by omega)
 show Go.Proofs.inn L a (Go.Proofs.midd L n f a) n b=true
 refine d8a (b:=b+1) ?_ n (by omega)
 show Go.Proofs.stp L a b (Go.Proofs.inn L a (Go.Proofs.midd L n f a) b) b=true
 have h1:=a8o (L:=L) (a:=a) (a4k (L:=L) (n:=n) h a) b
 simp [Go.Proofs.stp,h1,hl]
theorem b4o {P:Nat→Prop} {a:Nat} (ha:a<n) (hP:∀a b,a<n→b<n→P a→L a b=true→P b) {f:Nat→Bool} (hf:∀i,f i=true→P i):∀b,b≤n→∀i,Go.Proofs.inn L a f b i=true→P i
 | 0,_,i,h=>hf i h
 | b+1,hb,i,h=>by
  have ih:=b4o ha hP hf b (by omega)
  simp only [Go.Proofs.inn,Go.Proofs.stp] at h
  split at h
  ·rename_i e
   subst e
   rw [wT,wG] at h
   rcases h with h|h
   ·exact ih _ h
   ·exact hP a i ha (by omega) (ih a h.1) h.2
  ·exact ih i h
theorem a7l {P:Nat→Prop} (hP:∀a b,a<n→b<n→P a→L a b=true→P b) {f:Nat→Bool} (hf:∀i,f i=true→P i):∀a,a≤n→∀i,Go.Proofs.midd L n f a i=true→P i
 | 0,_,i,h=>hf i h
 | a+1,ha,i,h=>b4o (by omega) hP (a7l hP hf a (by omega)) n (vL _) i h
theorem b4h {P:Nat→Prop} (hP:∀a b,a<n→b<n→P a→L a b=true→P b) {f:Nat→Bool} (hf:∀i,f i=true→P i):∀k i,Go.Proofs.oul L n f k i=true→P i
 | 0,i,h=>hf i h
 | k+1,i,h=>a7l hP (b4h hP hf k) n (vL _) i h
theorem b6x {f:Nat→Bool} {i:Nat} (h:f i=true):∀k,Go.Proofs.oul L n f k i=true
 | 0=>h
 | k+1=>a4k (b6x h k) n
def c4s (f:Nat→Bool):Nat→Nat
 | 0=>0
 | n+1=>c4s f n+bif f n then 1 else 0
theorem c88 (f:Nat→Bool):∀n,c4s f n≤n
 | 0=>vL 0
 | n+1=>by have:=c88 f n;simp only [c4s];cases f n<;>simp<;>omega
theorem b82 {f g:Nat→Bool} (h:∀i,f i=true→g i=true):∀n,c4s f n≤c4s g n
 | 0=>vL 0
 | n+1=>by
  have ih:=b82 h n
  simp only [c4s]
  cases hf:f n with
  | true=>rw [h n hf];simp;exact ih
  | false=>cases g n<;>simp<;>omega
theorem c86 {f g:Nat→Bool} (h:∀i,f i=true→g i=true) {j:Nat} (hf:f j=false) (hg:g j=true):∀n,j<n→c4s f n<c4s g n
 | 0,hj=>absurd hj (Nat.not_lt_zero _)
 | n+1,hj=>by
  simp only [c4s]
  by_cases e:j=n
  ·subst e
   have:=b82 h j
   rw [hf,hg];simp;omega
  ·have:=c86 h hf hg n (by omega)
   cases hfn:f n with
   | true=>rw [h n hfn];simp;exact this
   | false=>cases g n<;>simp<;>omega
theorem c2c {f:Nat→Bool} {j:Nat} (hf:f j=true):∀n,j<n→1≤c4s f n
 | 0,hj=>absurd hj (Nat.not_lt_zero _)
 | n+1,hj=>by
  simp only [c4s]
  by_cases e:j=n
  ·subst e;rw [hf];simp
  ·have:=c2c hf n (by omega);omega
def g4i (L:Nat→Nat→Bool) (n:Nat) (f:Nat→Bool):Prop:=∀a b,a<n→b<n→f a=true→L a b=true→f b=true
theorem c1e {c:Nat} (hc:c<n):∀k,g4i L n (Go.Proofs.oul L n (fun i=>decide (i=c)) k)∨k+1≤c4s (Go.Proofs.oul L n (fun i=>decide (i=c)) k) n
 | 0=>.inr (c2c (j:=c) (by simp [Go.Proofs.oul]) n hc)
 | k+1=>by
  have ih:=c1e hc k
  by_cases hcl:g4i L n (Go.Proofs.oul L n (fun i=>decide (i=c)) k)
  ·left
   have e:Go.Proofs.oul L n (fun i=>decide (i=c)) (k+1)=Go.Proofs.oul L n (fun i=>decide (i=c)) k:=by
    funext i
    rw [wU]
    exact ⟨fun h=>a7l (P:=fun i=>Go.Proofs.oul L n (fun i=>decide (i=c)) k i=true) hcl (fun i h=>h) n (vL _) i h,fun h=>a4k h n⟩
   rw [e];exact hcl
  ·right
   have ih:=ih.resolve_left hcl
   have:∃a b,a<n∧b<n∧Go.Proofs.oul L n (fun i=>decide (i=c)) k a=true∧L a b=true∧Go.Proofs.oul L n (fun i=>decide (i=c)) k b=false:=Classical.byContradiction fun hn=>hcl fun a b ha hb h hl=>by
    cases hb':Go.Proofs.oul L n (fun i=>decide (i=c)) k b with
    | true=>rfl
    | false=>exact absurd ⟨a,b,ha,hb,h,hl,hb'⟩ hn
   obtain ⟨a,b,ha,hb,h,hl,hb'⟩:=this
   have:=c86 (f:=Go.Proofs.oul L n (fun i=>decide (i=c)) k) (g:=Go.Proofs.oul L n (fun i=>decide (i=c)) (k+1)) (fun i h=>a4k h n) hb' (c3n ha hb h hl) n hb
   omega
theorem b9i {c:Nat} (hc:c<n):g4i L n (Go.Proofs.oul L n (fun i=>decide (i=c)) n):=(c1e hc n).resolve_right fun h=>by have:=c88 (Go.Proofs.oul L n (fun i=>decide (i=c)) n) n;omega
end search
theorem a5c {α ρ:Type} {body:Int→α→Unit→Option (Fl Unit ρ)} (v:ρ) (p:α→Prop) [DecidablePred p]:∀(xs:List α) (k:Int),(∀k x,x∈xs→body k x ()=some (if p x then .ex v else .nx ()))→[Decidable (∃x∈xs,p x)] →
  a10 body xs k ()=some (if ∃x∈xs,p x then .ex v else .nx ())
 | [],k,h,_=>by simp [a10]
 | x :: r,k,h,_=>by
  simp only [a10,h k x (by simp)]
  by_cases c:p x
  ·have:∃y∈x::r,p y:=⟨x,by simp,c⟩
   simp only [if_pos c,xZ,a1p,if_pos this]
  ·have:=Classical.propDecidable (∃y∈r,p y)
   simp only [if_neg c,xZ,a1t]
   rw [a5c v p r (k+1) fun k y hy=>h k y (by simp [hy])]
   by_cases d:∃y∈r,p y
   ·have:∃y∈x::r,p y:=by obtain ⟨y,hy,hp⟩:=d;exact ⟨y,by simp [hy],hp⟩
    rw [if_pos d,if_pos this]
   ·have:¬∃y∈x::r,p y:=by
     rintro ⟨y,hy,hp⟩
     rcases w4.1 hy with rfl|hy
     ·exact c hp
     ·exact d ⟨y,hy,hp⟩
    rw [if_neg d,if_neg this]
open Classical in
theorem c5v (x:l7) (a b:Int):F_4 x a b=some (decide (leads x a b)):=by
 unfold F_4
 rw [a5c true (fun m:a0n=>m.From=a∧m.To=b) x.Mints 0 fun k m _=>by
  simp only [g4g,grp]
  by_cases c:m.From=a∧m.To=b
  ·simp [c.1,c.2]
  ·rw [if_neg c]
   have:(decide (m.From=a)&&decide (m.To=b))=false:=by simpa using c
   rw [this];rfl]
 by_cases h1:∃m∈x.Mints,m.From=a∧m.To=b
 ·have:leads x a b:=.inl h1
  simp only [if_pos h1,xZ,a1p,wV this]
 ·simp only [if_neg h1,xZ,a1t]
  rw [a5c true (fun g:a03=>g.Credential=a∧∃s∈x.Stores,s.Resource=g.Resource∧s.Credential=b) x.Grants 0 fun k g _=>by
   simp only [g3l]
   rw [a5c true (fun s:a08=>s.Resource=g.Resource∧s.Credential=b) x.Stores 0 fun k s _=>by
    simp only [g43,grp]
    by_cases c:s.Resource=g.Resource∧s.Credential=b
    ·simp [c.1,c.2]
    ·rw [if_neg c]
     have:(decide (s.Resource=g.Resource)&&decide (s.Credential=b))=false:=by simpa using c
     rw [this];rfl]
   by_cases c:g.Credential=a
   ·by_cases d:∃s∈x.Stores,s.Resource=g.Resource∧s.Credential=b
    ·simp only [c,decide_true,w6,vO,true_and,if_pos d,xZ,a1p]
    ·simp only [c,decide_true,w6,vO,true_and,if_neg d,xZ,a1t]
   ·simp only [wI c,wY,vQ,if_neg (show ¬(g.Credential=a∧_) from fun h=>c h.1)]]
  by_cases h2:∃g∈x.Grants,g.Credential=a∧∃s∈x.Stores,s.Resource=g.Resource∧s.Credential=b
  ·have:leads x a b:=by
    obtain ⟨g,hg,e,s,hs,e1,e2⟩:=h2
    exact .inr ⟨g,hg,s,hs,e,e1,e2⟩
   simp only [if_pos h2,xZ,a1p,wV this]
  ·have:¬leads x a b:=by
    rintro (h|⟨g,hg,s,hs,e,e1,e2⟩)
    ·exact h1 h
    ·exact h2 ⟨g,hg,e,s,hs,e1,e2⟩
   simp only [if_neg h2,xZ,a1t,wI this]
theorem a9k (n lo hi:Int):F_b n lo hi=some (decide (lo≤n∧n≤hi)):=by simp [F_b,grp]
open Classical in
theorem a8b (x:l7):F_g x=some (decide (a14 x)):=by
 simp only [F_g,a9k,xZ,grp]
 by_cases h1:0≤x.Credentials∧x.Credentials≤24
 ·by_cases h2:0≤x.Resources∧x.Resources≤24
  ·by_cases h3:x.Grants.length≤100∧x.Stores.length≤100∧x.Mints.length≤100
   ·have e3:(decide (100<(x.Grants.length:Int))||decide (100<(x.Stores.length:Int))||decide (100<(x.Mints.length:Int)))=false:=by
     simp only [xE,zK];omega
    have i1:a0p (x.Credentials - 1)=true:=u6 (by omega) (by omega)
    have i2:a0p (x.Resources - 1)=true:=u6 (by omega) (by omega)
    have g1:=a5c (body:=f7r x) false (fun g=>¬gOK x g) x.Grants 0 fun k g _=>by
     simp only [f7r,a9k,xZ,o8 i1,o8 i2]
     unfold gOK
     by_cases c1:0≤g.Credential∧g.Credential≤x.Credentials - 1<;>by_cases c2:0≤g.Resource∧g.Resource≤x.Resources - 1<;>by_cases c3:1≤g.Right∧g.Right≤3<;>simp only [c1,c2,c3,decide_true,decide_false,w6,wY,vQ,vO,xZ,and_self,and_true,true_and,and_false,false_and,not_true_eq_false,not_false_eq_true,if_true,if_false]
    have g2:=a5c (body:=f7m x) false (fun s=>¬sOK x s) x.Stores 0 fun k g _=>by
     simp only [f7m,a9k,xZ,o8 i1,o8 i2]
     unfold sOK
     by_cases c1:0≤g.Credential∧g.Credential≤x.Credentials - 1<;>by_cases c2:0≤g.Resource∧g.Resource≤x.Resources - 1<;>simp only [c1,c2,decide_true,decide_false,w6,wY,vQ,vO,xZ,and_self,and_true,true_and,and_false,false_and,not_true_eq_false,not_false_eq_true,if_true,if_false]
    have g3:=a5c (body:=f7f x) false (fun s=>¬mOK x s) x.Mints 0 fun k g _=>by
     simp only [f7f,a9k,xZ,o8 i1]
     unfold mOK
     by_cases c1:0≤g.From∧g.From≤x.Credentials - 1<;>by_cases c2:0≤g.To∧g.To≤x.Credentials - 1<;>simp only [c1,c2,decide_true,decide_false,w6,wY,vQ,vO,xZ,and_self,and_true,true_and,and_false,false_and,not_true_eq_false,not_false_eq_true,if_true,if_false]
    simp only [h1,h2,decide_true,w6,w7,vO,e3,jn,xZ,and_self,a1t]
    rw [g1,g2,g3]
    by_cases q1:∃g∈x.Grants,¬gOK x g
    ·have:¬a14 x:=fun h=>by obtain ⟨g,hg,hn⟩:=q1;exact hn (h.gr g hg)
     simp only [if_pos q1,xZ,a1p,wI this]
    ·by_cases q2:∃g∈x.Stores,¬sOK x g
     ·have:¬a14 x:=fun h=>by obtain ⟨g,hg,hn⟩:=q2;exact hn (h.st g hg)
      simp only [if_neg q1,if_pos q2,xZ,a1p,a1t,wI this]
     ·by_cases q3:∃g∈x.Mints,¬mOK x g
      ·have:¬a14 x:=fun h=>by obtain ⟨g,hg,hn⟩:=q3;exact hn (h.mi g hg)
       simp only [if_neg q1,if_neg q2,if_pos q3,xZ,a1p,a1t,wI this]
      ·have:a14 x:=⟨h1.1,h1.2,h2.1,h2.2,h3.1,h3.2.1,h3.2.2,fun g hg=>Classical.byContradiction fun hn=>q1 ⟨g,hg,hn⟩,fun g hg=>Classical.byContradiction fun hn=>q2 ⟨g,hg,hn⟩,fun g hg=>Classical.byContradiction fun hn=>q3 ⟨g,hg,hn⟩⟩
       simp only [if_neg q1,if_neg q2,if_neg q3,xZ,a1t,wV this]
   ·have e3:(decide (100<(x.Grants.length:Int))||decide (100<(x.Stores.length:Int))||decide (100<(x.Mints.length:Int)))=true:=by
     simp only [wT,xO];omega
    have:¬a14 x:=fun h=>h3 ⟨h.gl,h.sl,h.ml⟩
    simp only [h1,h2,decide_true,w6,w7,vO,e3,vQ,wI this,and_self,jn,xZ,a1p]
  ·have:¬a14 x:=fun h=>h2 ⟨h.r0,h.r1⟩
   simp only [h1,h2,decide_true,decide_false,w6,wY,Bool.true_or,vO,vQ,wI this,and_self,jn,xZ,a1p]
 ·have:¬a14 x:=fun h=>h1 ⟨h.c0,h.c1⟩
  simp only [h1,decide_false,wY,Bool.true_or,vQ,wI this,jn,xZ,a1p]
theorem c5q {x:l7} (g:a14 x) {c:Int} (hc:0≤c∧c≤x.Credentials - 1):Ok (f4e x c) fun r=>r.Pairwise (fun a b=>a<b)∧∀k,k∈r↔Rch x c k:=by
 classical
 have h0:=g.c0;have h1:=g.c1
 have i1:a0p (x.Credentials - 1)=true:=u6 (by omega) (by omega)
 simp only [f4e,a8b,wV g,xZ,w6,vO,o8 i1,a9k,wV hc]
 have hL:b6t x c=some ((List.range x.Credentials.toNat).map (Go.Proofs.oul (fun a b=>decide (leads x a b)) x.Credentials.toNat (fun i=>decide (i=c.toNat)) x.Credentials.toNat)):=by
  unfold b6t
  have e:∀a b:Nat,F_4 x a b=some (decide (leads x a b)):=fun a b=>c5v x a b
  simp only [e,Option.isSome_some,xY]
  rw [o8]
  simp only [wG,xO]
  exact ⟨⟨⟨q9.2 (by omega),h1⟩,by omega⟩,by simp⟩
 rw [hL]
 simp only [xZ]
 generalize hf:Go.Proofs.oul (fun a b=>decide (leads x a b)) x.Credentials.toNat (fun i=>decide (i=c.toNat)) x.Credentials.toNat=f
 have hR:∀i:Nat,(i<x.Credentials.toNat∧f i=true)↔Rch x c i:=by
  intro i
  constructor
  ·rintro ⟨_,h⟩
   rw [←hf] at h
   refine b4h (L:=fun a b=>decide (leads x a b)) (n:=x.Credentials.toNat) (P:=fun i=>Rch x c i) (fun a b _ _ ha hl=>.step ha (of_decide_eq_true hl)) (fun j hj=>?_) _ i h
   have:j=c.toNat:=of_decide_eq_true hj
   have:(j:Int)=c:=by omega
   rw [this];exact .refl
  ·intro h
   have key:∀k,Rch x c k→f k.toNat=true:=by
    intro k hk
    induction hk with
    | refl=>rw [←hf];exact b6x (by simp) _
    | @step a b hra hl ih =>
     have ra:=a5x g hc hra
     have rb:=b2j g hl
     have:=b9i (L:=fun a b:Nat=>decide (leads x a b)) (n:=x.Credentials.toNat) (c:=c.toNat) (by omega)
     rw [hf] at this
     refine this a.toNat b.toNat (by omega) (by omega) ih (wV ?_)
     rw [show ((a.toNat:Nat):Int)=a by omega,show ((b.toNat:Nat):Int)=b by omega]
     exact hl
   have:=a5x g hc h
   refine ⟨by omega,?_⟩
   simpa using key _ h
 refine Ok.bind (Ok.foldI (all:=(List.range x.Credentials.toNat).map f) (Q:=fun r:List Int=>r.Pairwise (fun a b=>a<b)∧∀k,k∈r↔Rch x c k) (fun pre s=>s.length≤pre.length∧s.Pairwise (fun a b=>a<b)∧∀k,k∈s↔∃i:Nat,i<pre.length∧k=i∧f i=true) _ [] 0 _ rfl rfl ⟨vL _,by simp,fun k=>⟨fun h=>by simp at h,fun ⟨i,hi,_⟩=>by simp at hi⟩⟩ (fun pre y r s hw hs=>?_) fun s hs=>?_) fun r hr=>Ok.ret hr
 ·obtain ⟨s1,s2,s3⟩:=hs
  have hlen:pre.length<x.Credentials.toNat:=by have:=congrArg List.length hw;simp at this;omega
  have hy:y=f pre.length:=by
   have:=congrArg (fun l=>l[pre.length]?) hw
   simpa [hlen] using this.symm
  unfold g44
  refine Ok.ite (fun cy=>Ok.chk (a04 (by simp;omega)) (Ok.ret ⟨by simp;omega,?_,fun k=>?_⟩)) fun cy=>Ok.ret ⟨by simp;omega,s2,fun k=>?_⟩
  ·rw [List.pairwise_append]
   refine ⟨s2,by simp,fun a ha b hb=>?_⟩
   obtain ⟨i,hi,rfl,_⟩:=(s3 a).1 ha
   simp at hb;omega
  ·simp only [wN,xI,s3 k,xK,zV]
   constructor
   ·rintro (⟨i,hi,e,h⟩|rfl)
    ·exact ⟨i,by omega,e,h⟩
    ·exact ⟨pre.length,by omega,rfl,by rw [←hy];exact cy⟩
   ·rintro ⟨i,hi,rfl,h⟩
    by_cases e:i=pre.length
    ·exact .inr (by rw [e])
    ·exact .inl ⟨i,by omega,rfl,h⟩
  ·rw [s3 k]
   simp only [xK,zV]
   constructor
   ·rintro ⟨i,hi,e,h⟩;exact ⟨i,by omega,e,h⟩
   ·rintro ⟨i,hi,rfl,h⟩
    refine ⟨i,?_,rfl,h⟩
    by_cases e:i=pre.length
    ·rw [e,←hy,cy] at h;cases h
    ·omega
 ·obtain ⟨s1,s2,s3⟩:=hs
  refine ⟨s2,fun k=>?_⟩
  rw [s3 k]
  simp only [wP,List.length_range]
  constructor
  ·rintro ⟨i,hi,rfl,h⟩;exact (hR i).1 ⟨hi,h⟩
  ·intro h
   have:=a5x g hc h
   obtain ⟨h1,h2⟩:=(hR k.toNat).2 (by rw [show ((k.toNat:Nat):Int)=k by omega];exact h)
   exact ⟨k.toNat,h1,by omega,h2⟩
theorem d0b (l:List Int) (x:Int):d4w l x=some (decide (x∈l)):=by
 classical
 unfold d4w
 rw [a5c true (fun a=>a=x) l 0 fun k a _=>by
  simp only [f6y]
  by_cases c:a=x<;>simp [c]]
 by_cases c:x∈l
 ·have:∃a∈l,a=x:=⟨x,c,rfl⟩
  simp only [if_pos this,xZ,a1p,wV c]
 ·have:¬∃a∈l,a=x:=fun ⟨a,h,e⟩=>c (e▸h)
  simp only [if_neg this,xZ,a1t,wI c]
theorem c69 {x:l7} (g:a14 x) (r:List Int):Ok (f0x x r) fun b=>(b.length:Int)=x.Resources∧∀i:Nat,i<b.length→b.getD i default=mx (·∈r) i x.Grants:=by
 classical
 have h0:=g.r0;have h1:=g.r1
 unfold f0x
 refine Ok.chk (a2f.2 ⟨h0,vN _,by omega⟩) (Ok.bind (Ok.foldI (all:=x.Grants) (Q:=fun b:List Int=>(b.length:Int)=x.Resources∧∀i:Nat,i<b.length→b.getD i default=mx (·∈r) i x.Grants)
  (fun pre b=>(b.length:Int)=x.Resources∧∀i:Nat,i<b.length→b.getD i default=mx (·∈r) i pre) x.Grants [] 0 _ rfl rfl ⟨by simp;omega,fun i hi=>?_⟩ (fun pre y q s hw hs=>?_) fun s hs=>hs) fun b hb=>Ok.ret hb)
 ·simp only [List.length_replicate] at hi
  simp [mx,hi]
 ·obtain ⟨s1,s2⟩:=hs
  have hy:=g.gr y (by rw [hw];simp)
  unfold g1z
  rw [d0b]
  refine Ok.bind (P:=fun b=>b=decide (y.Credential∈r)) ⟨_,rfl,rfl⟩ fun b hb=>?_
  subst hb
  refine Ok.ite (fun c=>?_) fun c=>Ok.ret ⟨s1,fun i hi=>?_⟩
  ·have c:y.Credential∈r:=of_decide_eq_true c
   have hb:=hy.2.1
   have i0:inb y.Resource s.length=true:=q9.2 ⟨hb.1,by omega⟩
   refine Ok.chk i0 (Ok.chk i0 (Ok.ret ⟨by simpa using s1,fun i hi=>?_⟩))
   simp only [List.length_set] at hi
   rw [b5v,zE,xR]
   by_cases e:y.Resource.toNat=i
   ·have e2:y.Resource=(i:Int):=by omega
    rw [if_pos e,if_pos (by omega),xY,if_pos ⟨c,e2⟩,e,s2 i hi]
   ·have e2:¬y.Resource=(i:Int):=by omega
    rw [if_neg e,if_neg (fun h=>e2 h.2),←zE,s2 i hi]
  ·have c:¬y.Credential∈r:=of_decide_eq_false c
   rw [b5v,if_neg (fun h=>c h.1)]
   exact s2 i hi
theorem c5r {x:l7} (g:a14 x) {c:Int} (hc:0≤c∧c≤x.Credentials - 1):Ok (e1e x c) fun p=>(p.length:Int)=x.Resources∧∀i:Nat,i<p.length→p.getD i default=mx (Rch x c) i x.Grants:=by
 classical
 have h0:=g.c0;have h1:=g.c1
 have i1:a0p (x.Credentials - 1)=true:=u6 (by omega) (by omega)
 unfold e1e
 simp only [a8b,wV g,xZ,w6,vO,o8 i1,a9k,wV hc]
 refine Ok.bind (c5q g hc) fun r hr=>Ok.bind (c69 g r) fun b hb=>Ok.ret ⟨hb.1,fun i hi=>?_⟩
 rw [hb.2 i hi]
 exact c1i hr.2 i x.Grants
theorem c3h {x:l7} (g:a14 x) {c:Int} (hc:0≤c∧c≤x.Credentials - 1):e1e x c=e1k x c:=by
 obtain ⟨p,e1,h1,h2⟩:=c5r g hc
 obtain ⟨q,e2,k1,k2⟩:=c0y g hc
 rw [e1,e2]
 congr 1
 refine List.ext_getElem (by omega) fun i hi hj=>?_
 have a:=h2 i hi
 have b:=k2 i hj
 rw [zE,zJ hi,xY] at a
 rw [zE,zJ hj,xY] at b
 rw [a,b]
open Classical in
theorem c9h (w:List Int):f1v w=some (decide (∃a∈w,¬(0≤a∧a≤100))):=by
 refine a2a (fun a=>¬(0≤a∧a≤100)) w fun k a=>?_
 simp only [f7d,f1w,grp,xZ]
 by_cases q:0≤a∧a≤100
 ·have:(decide (a<0)||decide (100<a))=false:=by simp only [xE,zK];omega
  simp [this,q]
 ·have:(decide (a<0)||decide (100<a))=true:=by simp only [wT,xO];omega
  simp only [this,vQ,q,not_false_eq_true,if_true]
open Classical in
theorem b48 (x:l7) (w:List Int):e0i x w=some (decide ((w.length:Int)=x.Resources)&&!decide (∃a∈w,¬(0≤a∧a≤100))):=by
 unfold e0i
 by_cases hl:(w.length:Int)=x.Resources
 ·simp only [wV hl,w6,vO,Bool.true_and]
  rw [a5c false (fun a:Int=>¬(0≤a∧a≤100)) w 0 fun k a _=>by
   simp only [g25,grp]
   by_cases q:0≤a∧a≤100
   ·have:(decide (a<0)||decide (100<a))=false:=by simp only [xE,zK];omega
    simp [this,q]
   ·have:(decide (a<0)||decide (100<a))=true:=by simp only [wT,xO];omega
    simp only [this,vQ,q,not_false_eq_true,if_true]]
  by_cases c:∃a∈w,¬(0≤a∧a≤100)
  ·simp only [if_pos c,xZ,a1p,wV c,w6]
  ·simp only [if_neg c,xZ,a1t,wI c,wY]
 ·simp only [wI hl,wY,vQ,Bool.false_and]
theorem c5l (x:l7) (w:List Int) (c:Int):f2m x w c=e0l x w c:=by
 classical
 simp only [f2m,e0l,a8b,a5w,xZ,b48,c9h,grp]
 by_cases g:a14 x
 ·simp only [wV g,if_pos g,w6,vO,decide_true]
  by_cases hl:(w.length:Int)=x.Resources
  ·simp only [wV hl,Bool.true_and,Bool.not_not,w6,vO]
   by_cases q:∃a∈w,¬(0≤a∧a≤100)
   ·simp only [wV q,vQ]
   ·simp only [wI q,vO]
    by_cases hc:0≤c∧c≤x.Credentials - 1
    ·rw [c3h g hc]
     rfl
    ·have:(decide (c<0)||decide (x.Credentials≤c))=true:=by simp only [wT,xO];omega
     simp only [this,vQ]
  ·simp only [wI hl,Bool.false_and,wY,vQ]
 ·have:¬((32:Int)=0):=by omega
  simp only [wI g,if_neg g,wI this,wY,vQ]
theorem d02 (x:l7) (w:List Int) (c n:Int) (p:Bool):f2l x w c n p=e0k x w c n p:=by
 simp only [f2l,e0k,c5l]
 rfl
set_option maxRecDepth 20000
theorem c63 {f:a01} {s:o5} (h:a6i f s):f2k f s=some (decide (s.Valid=2)&&s.Units.all b3x):=by
 unfold f2k
 rw [a8d h,xZ]
 simp only [grp,w6,w7]
 cases hv:decide (s.Valid=2) with
 | false=>rfl
 | true =>
  simp only [w6,vO]
  have hb:∀(k:Int) (u:a0r),f6l k u ()=some (bif b3x u then .nx () else .ex false):=fun k u=>by
   simp only [f6l,grp,b3x]
   cases u.Up<;>cases decide (u.Stored=2)<;>cases decide (u.Used=2)<;>rfl
  rw [a0k (fun u=>if b3x u=true then none else some false) s.Units 0 fun k u _=>by
   rw [hb]
   cases b3x u<;>rfl]
  rw [xZ,a1b (p:=fun u=>b3x u=true) fun u _=>rfl]
  by_cases c:∀x∈s.Units,b3x x=true
  ·rw [if_pos c]
   have:s.Units.all b3x=true:=wF.2 c
   rw [this];rfl
  ·rw [if_neg c]
   have:s.Units.all b3x=false:=by
    rw [Bool.eq_false_iff];exact fun e=>c (wF.1 e)
   rw [this];rfl
theorem b9f {c:l9} (h:a5p c) {k:Nat} (hk:k<c.Replicas.length):f2j c k 1=some (c4u c 1 (c.Replicas.getD k default)):=by
 have hv:=b5h h
 obtain ⟨h1,h2,h3,h4,h5,h6⟩:=h
 refine Ok.eq ?_
 unfold f2j
 rw [hv]
 simp only [xZ,w6,vO,a5m]
 refine Ok.jn (P:=fun o=>o=.nx ()) (Ok.chk (u6 (by omega) (by omega)) (Ok.grp (Ok.ite (fun q=>?_) fun _=>Ok.ret rfl))) fun o ho=>?_
 ·have e1:decide ((0:Int)≤(k:Int))=true:=wV (by omega)
  have e2:decide ((k:Int)≤(c.Replicas.length:Int) - 1)=true:=wV (by omega)
  rw [e1,e2] at q
  simp at q
 subst ho
 rw [a1t]
 refine Ok.chk (q9.2 ⟨by omega,by omega⟩) ?_
 rw [xW]
 have hg:=h5 (c.Replicas.getD k default) (a8u hk)
 unfold c4u hasB
 cases (c.Replicas.getD k default).Serving with
 | false=>exact Ok.ret rfl
 | true =>
  exact Ok.jn (P:=fun j=>j=!decide (bits .and .i64 (c.Sets.getD (c.Replicas.getD k default).Generation.toNat default) 1=0)) (Ok.chk (q9.2 ⟨hg.1,by omega⟩) (Ok.ret rfl)) fun j hj=>Ok.ret (by rw [hj];rfl)
theorem d0g {c:l9} (h:a5p c):f2i c 1=some (b7z c 1):=by
 have hv:=b5h h
 have h2:=h.2.1
 refine Ok.eq ?_
 unfold f2i
 rw [hv,xZ]
 refine Ok.grp (Ok.ite (fun q=>by simp at q) fun _=>Ok.chk (u6 (by omega) (by omega)) (Ok.chk (q9.2 ⟨by omega,by omega⟩) ?_))
 have e:(!decide (bits .and .i64 (c.Sets.getD ((c.Sets.length:Int) - 1).toNat default) 1=0))=hasB c ((c.Sets.length:Int) - 1) 1:=rfl
 rw [e]
 unfold b7z
 cases hasB c ((c.Sets.length:Int) - 1) 1 with
 | true=>exact Ok.ret rfl
 | false =>
  simp only [vO,wY,Bool.true_and]
  refine Ok.bind (P:=fun o=>o=(if c.Replicas.any (c4u c 1)=true then (.ex false:Fl Unit Bool) else .nx ())) (Ok.forI (all:=c.Replicas) (fun pre _=>pre.any (c4u c 1)=false) c.Replicas [] 0 () rfl rfl rfl (fun pre x r s hw hs=>?_) fun s hs=>by rw [hs];rfl) fun o ho=>?_
  ·have hp:pre.length<c.Replicas.length:=by rw [hw];simp
   have hx:c.Replicas.getD pre.length default=x:=by rw [hw];simp [zE]
   unfold g1y
   rw [b9f h hp,hx,xZ]
   cases ha:c4u c 1 x with
   | true =>
    refine Ok.ret ?_
    have:c.Replicas.any (c4u c 1)=true:=by rw [hw];simp [ha]
    show Fl.ex false=_
    rw [this];rfl
   | false =>
    refine Ok.ret ?_
    show (pre++[x]).any (c4u c 1)=false
    rw [List.any_append,hs];simp [ha]
  ·subst ho
   cases c.Replicas.any (c4u c 1)<;>exact Ok.ret rfl
theorem d6b {r:o6} (h:a2x r) (fp:Int):f2n r fp=some (finds r fp):=by
 unfold f2n
 rw [a5v r fun i hi=>by have:=(h.2.2.1 i hi).1.2.1;omega,wV h,xZ]
 simp only [w6,vO]
 rw [show (0:Int)=((0:Nat):Int) from rfl,a3o (fun c:o7=>decide (c.Fingerprint=fp)) 24 (by omega) r.Credentials 0 [] (by have:=h.2.1;simpa using this) fun k a x ha hx=>?_]
 ·rfl
 ·unfold g26
  cases decide (a.Fingerprint=fp) with
  | false=>rfl
  | true=>simp only [vQ];rw [o8 (a04 (by simp;omega))]
theorem d2h (d:d9) (a:l5) (c:Int):((b1b d a c).length:Int)=(c3f (b1b d a c)).length+(if (b1b d a c).any (fun x=>decide (x.Principal=-1))=true then 1 else 0):=by
 have tl:∀x∈b0p d a c d.Kinds.length 0,¬x.Principal=-1:=fun x hx=>by have:=(b5x.1 hx).1.1;omega
 have f1:c3f (b0p d a c d.Kinds.length 0)=b0p d a c d.Kinds.length 0:=by
  unfold c3f
  rw [List.filter_eq_self]
  intro x hx
  simpa using tl x hx
 have f2:(b0p d a c d.Kinds.length 0).any (fun x=>decide (x.Principal=-1))=false:=by
  rw [List.any_eq_false]
  intro x hx
  simpa using tl x hx
 have e:b1b d a c=(match sin d a c (-1) with|some t=>[⟨-1,t⟩]|none=>[])++b0p d a c d.Kinds.length 0:=rfl
 rw [e]
 cases sin d a c (-1) with
 | none =>
  simp only [wL]
  rw [f1]
  simp only [f2,xN,if_false,Int.add_zero]
 | some t =>
  have g1:c3f ([a00.mk (-1) t]++b0p d a c d.Kinds.length 0)=b0p d a c d.Kinds.length 0:=by
   unfold c3f at f1 ⊢
   rw [List.filter_append,f1];rfl
  simp only
  rw [g1]
  simp
end Go.Ab