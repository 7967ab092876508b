/- The reference's estates are the program's: what is valid. -/
import Derived.Test.YtbmjlaknnpmgpaaGreatDoorPA
import Derived.Test.YtbmjlaknnpmgpaaGreatDoorLX
import Derived.Test.YtbmjlaknnpmgpaaGreatDoorPO
import Derived.Test.YtbmjlaknnpmgpaaGreatDoorLI
set_option linter.all false
set_option linter.all false
namespace Go.Ab
open Go.Proofs
theorem b4y (n lo hi:Int):F_m n lo hi=some (decide (lo≤n∧n≤hi)):=by simp [F_m,grp]
open Classical in
theorem d1m (a:l5) (x:o8) (h1:1≤a.Places) (h2:a.Places≤16):f00 a x=some (decide (xok a.Places x)):=by
 have hin:∀o:Option Bool,chk (a0l (a.Places - 1)) o=o:=fun o=>o9 (a00 (n:=a.Places - 1) (by omega) (by omega))
 obtain ⟨T,K,P,pr,U,C,F⟩:=x
 simp only [f00,b4y,xY,jn,grp,hin,decide_true,Bool.true_and]
 by_cases t1:0≤T∧T≤1099511627776
 ·by_cases t2:0≤P∧P≤a.Places - 1
  ·simp only [t1,t2,and_self,decide_true,w5,vN]
   by_cases k1:K=1
   ·subst k1
    by_cases c1:U=0<;>by_cases c2:C=0<;>by_cases c3:F=0<;>simp [xok,c1,c2,c3,t1,t2]
   by_cases k2:K=2
   ·subst k2
    by_cases c1:U=0<;>by_cases c2:C=0<;>by_cases c3:F=0<;>simp [xok,c1,c2,c3,t1,t2]
   by_cases k3:K=3
   ·subst k3
    by_cases c1:pr=0<;>by_cases c2:C=0<;>by_cases c3:F=0<;>by_cases c4:T<U<;>simp [xok,c1,c2,c3,c4,t1,t2]
   by_cases k4:K=4
   ·subst k4
    by_cases c1:pr=0<;>by_cases c2:C=0<;>by_cases c3:F=0<;>by_cases c4:U=0<;>simp [xok,c1,c2,c3,c4,t1,t2]
   by_cases k5:K=5
   ·subst k5
    by_cases c1:pr=0<;>by_cases c2:U=0<;>by_cases c3:F=0<;>simp [xok,c1,c2,c3,t1,t2]
   by_cases k6:K=6
   ·subst k6
    by_cases c1:pr=0<;>by_cases c2:U=0<;>by_cases c3:F=0<;>simp [xok,c1,c2,c3,t1,t2]
   by_cases k7:K=7
   ·subst k7
    by_cases c1:pr=0<;>by_cases c2:U=0<;>by_cases c3:C=0<;>by_cases c4:F=P<;>simp [xok,c1,c2,c3,c4,t1,t2]<;>omega
   ·simp [xok,k1,k2,k3,k4,k5,k6,k7,t1,t2]
  ·have:¬xok a.Places ⟨T,K,P,pr,U,C,F⟩:=fun h=>t2 ⟨h.2.2.1,h.2.2.2.1⟩
   simp [t1,t2,this]
 ·have:¬xok a.Places ⟨T,K,P,pr,U,C,F⟩:=fun h=>t1 ⟨h.1,h.2.1⟩
  simp [t1,this]
open Classical in
theorem b5v (a:l5) (h1:1≤a.Places) (h2:a.Places≤16) (hn:a.Events.length≤120):∀(l:List o8) (k:Nat) (last:Int),a.Events.drop k=l→(0<k→(a.Events.getD (k - 1) default).Time=last)→(k=0→last=0)→k≤a.Events.length →
  a0x (f2i a) l (k:Int) ()=some (if chain a.Places last l then .nx () else .ex false)
 | [],k,last,hd,hl,h0,hk=>by simp [a0x,chain]
 | x :: r,k,last,hd,hl,h0,hk=>by
  have hlt:k<a.Events.length:=by
   rcases Nat.lt_or_ge k a.Events.length with h|h
   ·exact h
   ·rw [List.drop_eq_nil_of_le h] at hd;cases hd
  rw [List.drop_eq_getElem_cons hlt] at hd
  obtain ⟨e1,e2⟩:=List.cons.inj hd
  have hx:(a.Events.getD (k+1 - 1) default)=x:=by rw [Nat.add_sub_cancel,zE,zJ hlt];exact e1
  have ih:=fun last h=>b5v a h1 h2 hn r (k+1) last e2 h (by omega) hlt
  simp only [a0x,f2i,d1m a x h1 h2,xY,chain]
  by_cases c:xok a.Places x
  ·simp only [c,decide_true,w5,vN,true_and]
   have ih':=ih x.Time (fun _=>by rw [hx])
   rw [show ((k+1:Nat):Int)=(k:Int)+1 by simp] at ih'
   by_cases ck:0<k
   ·have e3:decide (0<(k:Int))=true:=wU (by omega)
    have e4:a0l ((k:Int) - 1)=true:=a00 (by omega) (by omega)
    have e5:inb ((k:Int) - 1) a.Events.length=true:=u6.2 ⟨by omega,by omega⟩
    have e6:((k:Int) - 1).toNat=k - 1:=by omega
    simp only [e3,vP,o9 e4,o9 e5,e6,hl ck]
    by_cases c3:x.Time<last
    ·have:¬last≤x.Time:=by omega
     simp [c3,this,a1o]
    ·have:last≤x.Time:=by omega
     simp [c3,this,a2e,ih']
   ·have e3:decide (0<(k:Int))=false:=wH (by omega)
    have hk0:k=0:=by omega
    have:last≤x.Time:=by rw [h0 hk0];exact c.1
    simp only [e3,vN,xY,a2e,this,true_and,ih']
  ·simp [c,a1o]
open Classical in
theorem valid_eq (a:l5):F_n a=some (decide (Good a)):=by
 simp only [F_n,b4y,xY,grp]
 by_cases c:1≤a.Places∧a.Places≤16
 ·by_cases c2:a.Events.length≤120
  ·have c':(!decide (1≤a.Places∧a.Places≤16)||decide (120<(a.Events.length:Int)))=false:=by simp [c];omega
   have h:=b5v a c.1 c.2 c2 a.Events 0 0 rfl (fun h=>by omega) (fun _=>rfl) (by omega)
   simp only [show ((0:Nat):Int)=0 from rfl] at h
   simp only [c',vN,h,xY]
   by_cases hc:chain a.Places 0 a.Events
   ·have:Good a:=(b0l a).2 ⟨c,c2,hc⟩
    simp [this,hc,a2e]
   ·have:¬Good a:=fun h=>hc ((b0l a).1 h).2.2
    simp [this,hc,a1o]
  ·have c':(!decide (1≤a.Places∧a.Places≤16)||decide (120<(a.Events.length:Int)))=true:=by simp;omega
   have:¬Good a:=fun h=>c2 h.len
   simp only [c',vP,this,decide_false]
 ·have:¬Good a:=fun h=>c ⟨h.lo,h.hi⟩
  simp [c,this]
open Classical in
theorem a7l (a:l5) (p:Int):d8h a p=F_1 a p:=by
 rw [b0j]
 simp only [d8h,valid_eq,xY,jn]
 by_cases h:Good a
 ·have:=h.lo;have:=h.hi
  simp [h,b4y,o9 (a00 (n:=a.Places - 1) (by omega) (by omega))]
 ·simp [h]
theorem b1x (a:l5) (p:Int):(F_1 a p=some true∧Good a∧0≤p∧p≤a.Places - 1)∨F_1 a p=some false:=by
 classical
 rw [b0j]
 by_cases h:Good a∧0≤p∧p≤a.Places - 1
 ·left;exact ⟨congrArg some (wU h),h⟩
 ·right;exact congrArg some (wH h)
theorem a8n {β:Type} (q k:Int) (v:β):∀m:List (Int×β),a4z q (a6y k v m)=if q=k then some v else a4z q m
 | []=>by by_cases e:q=k<;>simp [a6y,a4z,e]
 | (a,b)::r=>by
  by_cases e:k=a
  ·subst e
   by_cases e2:q=k<;>simp [a6y,a4z,e2]
  ·simp only [a6y,if_neg e,a4z,a8n q k v r]
   by_cases e2:q=a
   ·subst e2
    have:¬q=k:=fun h=>e h.symm
    simp [this]
   ·simp [e2]
theorem a9g {β:Type} {q:Int}:∀{m:List (Int×β)},q∉m.map Prod.fst→a4z q m=none
 | [],h=>rfl
 | (a,b)::r,h=>by
  simp only [w4,wZ,not_or] at h
  simp only [a4z,if_neg h.1,a9g h.2]
theorem b7m {β:Type} {q:Int}:∀{m:List (Int×β)},q∈m.map Prod.fst→∃v,a4z q m=some v
 | (a,b)::r,h=>by
  by_cases e:q=a
  ·exact ⟨b,by simp [a4z,e]⟩
  ·have:q∈r.map Prod.fst:=by simpa [e] using h
   obtain ⟨v,hv⟩:=b7m this
   exact ⟨v,by simp [a4z,e,hv]⟩
theorem b9h {β:Type} (q:Int) (m:List (Int×β)):(a4z q m).isSome=decide (q∈m.map Prod.fst):=by
 by_cases h:q∈m.map Prod.fst
 ·obtain ⟨v,hv⟩:=b7m h
  rw [hv];exact (wU h).symm
 ·rw [a9g h];exact (wH h).symm
theorem a8o {β:Type} (q k:Int):∀m:List (Int×β),(m.map Prod.fst).Nodup→a4z q (b7o k m)=if q=k then none else a4z q m
 | [],h=>by simp [b7o,a4z]
 | (a,b)::r,h=>by
  simp only [w4,List.nodup_cons] at h
  by_cases e:k=a
  ·subst e
   by_cases e2:q=k
   ·subst e2
    simp only [b7o,if_true]
    exact a9g h.1
   ·simp [b7o,a4z,e2]
  ·simp only [b7o,if_neg e,a4z,a8o q k r h.2]
   by_cases e2:q=a
   ·subst e2
    have:¬q=k:=fun h=>e h.symm
    simp [this]
   ·simp [e2]
theorem b2a (p t:Int) (l:List o8):((grf p t l).map Prod.fst).Nodup:=by rw [b5f];exact b1y p t l
theorem c0u (p t:Int) (l:List o8) (x:o8):grf p t (l++[x])=gst p t l.length x (grf p t l):=by
 simp only [grf,a5k,a88,Int.zero_add]
def told (p t q:Int) (l:List o8) (n:Nat):Prop :=
 n<l.length∧(l.getD n default).Kind=1∧(l.getD n default).Place=p∧(l.getD n default).Principal=q∧(l.getD n default).Time≤t∧∀y∈l.drop (n+1),¬(y.Kind=2∧y.Place=p∧y.Principal=q∧y.Time≤t)
theorem a7d {p t q:Int} {l:List o8} {n:Nat} {x:o8} (h:told p t q l n) (hx:¬(x.Kind=2∧x.Place=p∧x.Principal=q∧x.Time≤t)):told p t q (l++[x]) n:=by
 obtain ⟨h1,h2,h3,h4,h5,h6⟩:=h
 have e:(l++[x]).getD n default=l.getD n default:=by rw [zE,zE,zH h1]
 refine ⟨by simp;omega,by rw [e];exact h2,by rw [e];exact h3,by rw [e];exact h4,by rw [e];exact h5,fun y hy=>?_⟩
 rw [List.drop_append_of_le_length (by omega),wM,xG] at hy
 rcases hy with hy|rfl
 ·exact h6 y hy
 ·exact hx
theorem c2s (p t q:Int) (l:List o8) (k:Int) (h:a4z q (grf p t l)=some k):∃n:Nat,k=n∧told p t q l n:=by
 induction l using a1t generalizing k with
 | h0=>cases h
 | h1 l x ih =>
  rw [c0u] at h
  unfold gst at h
  split at h
  ·rename_i c
   obtain ⟨n,e,hn⟩:=ih k h
   exact ⟨n,e,a7d hn (by omega)⟩
  ·rename_i c
   split at h
   ·rename_i c2
    rw [a8n] at h
    split at h
    ·rename_i c3
     cases h
     refine ⟨l.length,rfl,by simp,?_⟩
     have e:(l++[x]).getD l.length default=x:=by simp
     rw [e]
     refine ⟨c2,by omega,c3.symm,by omega,fun y hy=>?_⟩
     rw [List.drop_eq_nil_of_le (by simp)] at hy
     cases hy
    ·obtain ⟨n,e,hn⟩:=ih k h
     exact ⟨n,e,a7d hn (by omega)⟩
   ·split at h
    ·rw [a8o _ _ _ (b2a p t l)] at h
     split at h
     ·cases h
     ·rename_i c3
      obtain ⟨n,e,hn⟩:=ih k h
      exact ⟨n,e,a7d hn fun hh=>c3 hh.2.2.1.symm⟩
    ·obtain ⟨n,e,hn⟩:=ih k h
     exact ⟨n,e,a7d hn (by omega)⟩
open Classical in
theorem b3r {d:d9} (g:a1n d) (p:Int):d9d d p=some (decide (rdr d p)):=by
 have hk:=g.kl
 have hx:F_k d p=some (decide (0≤p∧p<d.Kinds.length)):=by
  unfold F_k
  rw [o9 (a3p (by omega) (by omega))]
  simp only [c8h,grp,xY]
  congr 1
  by_cases q:0≤p∧p<(d.Kinds.length:Int)
  ·rw [wU q,wU q.1,wU (show p≤(d.Kinds.length:Int) - 1 by omega)];rfl
  ·rw [wH q]
   by_cases q1:0≤p
   ·rw [wU q1,wH (show ¬p≤(d.Kinds.length:Int) - 1 by omega)];rfl
   ·rw [wH q1];rfl
 unfold d9d
 simp only [hx,xY,jn]
 by_cases q:0≤p∧p<(d.Kinds.length:Int)
 ·simp only [wU q,vP,o9 (u6.2 q),xY]
  by_cases w:d.Kinds.getD p.toNat default=2
  ·have:¬rdr d p:=fun h=>h.2.2 w
   rw [wU w,wH this];rfl
  ·have:rdr d p:=⟨q.1,q.2,w⟩
   rw [wH w,wU this];rfl
 ·have:¬rdr d p:=fun h=>q ⟨h.1,h.2.1⟩
  simp [wH q,this]
end Go.Ab
namespace Go.Ab
open Go.Proofs
def e1f (p q t:Int) (i:Int) (x:o8) (s:Int):Int :=
 if t<x.Time∨x.Place≠p∨x.Principal≠q then s else if x.Kind=1 then i else if x.Kind=2 then -1 else s
theorem c4x (p q t k:Int) (x:o8) (s:Int):f2f p q t k x s=some (e1f p q t k x s):=by
 simp only [f2f,grp,e1f]
 by_cases c:t<x.Time∨x.Place≠p∨x.Principal≠q
 ·have c':(decide (t<x.Time)||!decide (x.Place=p)||!decide (x.Principal=q))=true:=by
   simp only [wS,xN,xW,zK];omega
  simp only [c',vP,if_pos c]
 ·have c':(decide (t<x.Time)||!decide (x.Place=p)||!decide (x.Principal=q))=false:=by
   simp only [xC,zK,Bool.not_eq_false',xN];omega
  simp only [c',vN,if_neg c]
  by_cases c2:x.Kind=1
  ·simp [c2]
  ·by_cases c3:x.Kind=2<;>simp [c2,c3]
theorem b8f (p q t:Int) (l:List o8):a88 (e1f p q t) l 0 (-1)=(a4z q (grf p t l)).getD (-1):=by
 induction l using a1t with
 | h0=>rfl
 | h1 l x ih =>
  rw [a5k,c0u]
  simp only [a88,Int.zero_add,ih,e1f,gst]
  by_cases c:t<x.Time∨x.Place≠p
  ·rw [if_pos (by omega),if_pos c]
  ·rw [if_neg c]
   by_cases cq:x.Principal=q
   ·rw [if_neg (by omega)]
    by_cases c2:x.Kind=1
    ·rw [if_pos c2,if_pos c2,a8n,if_pos cq.symm];rfl
    ·rw [if_neg c2,if_neg c2]
     by_cases c3:x.Kind=2
     ·rw [if_pos c3,if_pos c3,a8o _ _ _ (b2a p t l),if_pos cq.symm];rfl
     ·rw [if_neg c3,if_neg c3]
   ·have cq':¬q=x.Principal:=fun h=>cq h.symm
    rw [if_pos (by omega)]
    by_cases c2:x.Kind=1
    ·rw [if_pos c2,a8n,if_neg cq']
    ·rw [if_neg c2]
     by_cases c3:x.Kind=2
     ·rw [if_pos c3,a8o _ _ _ (b2a p t l),if_neg cq']
     ·rw [if_neg c3]
theorem c2b (a:l5) (p q t:Int):e9e a p q t=some ((a4z q (grf p t a.Events)).getD (-1)):=by
 simp only [e9e,a6x (e1f p q t) (c4x p q t),xY,b8f]
theorem b9g {p t q k:Int} {l:List o8} (h:a4z q (grf p t l)=some k):0≤k:=by
 obtain ⟨n,rfl,_⟩:=c2s p t q l k h;omega
theorem a6k (n:Nat):((List.range n).map fun i:Nat=>(i:Int)).Pairwise fun x y=>x<y:=by
 rw [List.pairwise_map]
 exact List.pairwise_lt_range.imp fun h=>by omega
theorem b1c (a:l5) (p t:Int):e02 a p t=F_8 a p t:=by
 simp only [e02,a7l]
 rcases b1x a p with ⟨h,g,_⟩|h
 ·rw [a9a t g.len h,h]
  simp only [xY,w5,vN]
  have key:∀q:Int,decide (0≤(a4z q (grf p t a.Events)).getD (-1))=decide (q∈a2p p t a.Events):=fun q=>by
   have e:(a4z q (grf p t a.Events)).isSome=decide (q∈a2p p t a.Events):=by rw [b9h,b5f]
   rw [←e]
   cases ha:a4z q (grf p t a.Events) with
   | none=>rfl
   | some k=>simpa using b9g ha
  refine Ok.eq (Ok.bind (Ok.loop (Q:=fun r=>r=c3m (a2p p t a.Events)) (fun x=>0≤x.1∧x.1≤24∧x.2=((List.range x.1.toNat).map fun i:Nat=>(i:Int)).filter fun q=>decide (q∈a2p p t a.Events)) (fun x=>(24 - x.1).toNat) (fun x hx=>?_) _ ⟨by omega,by omega,rfl⟩) fun r hr=>Ok.ret hr)
  obtain ⟨i,out⟩:=x
  obtain ⟨h1,h2,h3⟩:=hx
  simp only at h1 h2 h3
  subst h3
  have hl:=List.length_filter_le (fun q=>decide (q∈a2p p t a.Events)) ((List.range i.toNat).map fun i:Nat=>(i:Int))
  simp only [wO,List.length_range] at hl
  unfold f7w
  refine Ok.ite (fun c=>?_) fun c=>?_
  ·have c:i<24:=by simpa using c
   rw [c2b]
   simp only [xY,key]
   have e1:(i+1).toNat=i.toNat+1:=by omega
   refine Ok.jn (P:=fun j=>j=((List.range (i+1).toNat).map fun i:Nat=>(i:Int)).filter fun q=>decide (q∈a2p p t a.Events)) (Ok.ite (fun cc=>Ok.chk (a0c (by simp only [zV];omega)) (Ok.ret ?_)) fun cc=>Ok.ret ?_) fun j hj=>?_
   ·rw [e1,List.range_succ,List.map_append,List.filter_append]
    have e2:((i.toNat:Nat):Int)=i:=by omega
    simp only [w4,vG,e2,List.filter_cons,cc,if_true,List.filter_nil]
   ·rw [e1,List.range_succ,List.map_append,List.filter_append]
    have e2:((i.toNat:Nat):Int)=i:=by omega
    simp [e2,cc]
   ·refine Ok.chk (a00 (by omega) (by omega)) (Ok.ret ?_)
    exact ⟨⟨by show 0≤i+1;omega,by show i+1≤24;omega,hj⟩,by show (24 - (i+1)).toNat<(24 - i).toNat;omega⟩
  ·have c:¬i<24:=by simpa using c
   have:i=24:=by omega
   subst this
   refine Ok.ret ?_
   show _=_
   have hsr:(((List.range (Int.toNat 24)).map fun i:Nat=>(i:Int)).filter fun q=>decide (q∈a2p p t a.Events)).Pairwise (fun x y=>x≤y):=List.Pairwise.filter _ ((a6k 24).imp fun h=>vH h)
   refine a7f ?_ hsr (a4j _)
   refine List.Perm.trans ?_ (a7e _).symm
   refine (List.perm_ext_iff_of_nodup ?_ (b1y p t a.Events)).2 fun q=>?_
   ·exact List.Pairwise.filter _ ((a6k 24).imp fun h=>Int.ne_of_lt h)
   ·simp only [wL,vF,List.mem_range,xN]
    constructor
    ·rintro ⟨_,h⟩;exact h
    ·intro hq
     refine ⟨?_,hq⟩
     obtain ⟨w,hw,hw1,hw2,_⟩:=c62 hq
     have:=(g.ev w hw).2.2.2.2
     exact ⟨q.toNat,by show q.toNat<(24:Int).toNat;omega,by omega⟩
 ·simp [h,F_8]
def unl (p t:Int) (y:o8):Prop:=y.Kind=4∧y.Place=p∧y.Time≤t
def lnk (p t:Int) (x:o8):Prop:=x.Kind=3∧x.Place=p∧x.Time≤t∧t<x.Until
def a7n (p t:Int) (l:List o8) (k:Nat):Prop:=lnk p t (l.getD k default)∧∀y∈l.drop (k+1),¬unl p t y
open Classical in
noncomputable def c56 (p t:Int) (l:List o8):Nat→Int×Bool
 | 0=>(0,false)
 | n+1=>if a7n p t l n then ((n:Int),true) else c56 p t l n
theorem b3y {p t:Int} {l:List o8} {x:o8} {k:Nat} (hk:k<l.length):a7n p t (l++[x]) k↔a7n p t l k∧¬unl p t x:=by
 unfold a7n
 rw [show (l++[x]).getD k default=l.getD k default by rw [zE,zE,zH hk],List.drop_append_of_le_length (by omega)]
 simp only [wM,xG]
 constructor
 ·rintro ⟨h1,h2⟩
  exact ⟨⟨h1,fun y hy=>h2 y (.inl hy)⟩,h2 x (.inr rfl)⟩
 ·rintro ⟨⟨h1,h2⟩,h3⟩
  refine ⟨h1,fun y hy=>?_⟩
  rcases hy with hy|rfl
  ·exact h2 y hy
  ·exact h3
theorem b67 {p t:Int} {l:List o8} {x:o8}:∀{n:Nat},n≤l.length→(unl p t x→c56 p t (l++[x]) n=(0,false))∧(¬unl p t x→c56 p t (l++[x]) n=c56 p t l n)
 | 0,h=>⟨fun _=>rfl,fun _=>rfl⟩
 | n+1,h=>by
  have ih:=b67 (p:=p) (t:=t) (l:=l) (x:=x) (n:=n) (by omega)
  constructor
  ·intro hu
   have:¬a7n p t (l++[x]) n:=fun h'=>((b3y (by omega)).1 h').2 hu
   simp only [c56,if_neg this,ih.1 hu]
  ·intro hu
   have:a7n p t (l++[x]) n↔a7n p t l n:=by rw [b3y (by omega)];exact ⟨fun h=>h.1,fun h=>⟨h,hu⟩⟩
   by_cases hh:a7n p t l n
   ·simp only [c56,if_pos (this.2 hh),if_pos hh]
   ·simp only [c56,if_neg (fun h=>hh (this.1 h)),if_neg hh,ih.2 hu]
theorem c9i (p t:Int) (l:List o8):c56 p t l l.length=lkf p t l 0 (0,false):=by
 induction l using a1t with
 | h0=>rfl
 | h1 l x ih =>
  rw [xI,zV,a96]
  simp only [lkf,Int.zero_add,c56]
  have e:(l++[x]).getD l.length default=x:=by simp
  have ho:a7n p t (l++[x]) l.length↔lnk p t x:=by
   unfold a7n
   rw [e,List.drop_eq_nil_of_le (by simp)]
   simp
  rw [←ih]
  have hs:=b67 (p:=p) (t:=t) (l:=l) (x:=x) (vK l.length)
  unfold lst
  by_cases hl:lnk p t x
  ·rw [if_pos (ho.2 hl)]
   obtain ⟨h1,h2,h3,h4⟩:=hl
   rw [if_neg (by omega),if_neg (by omega),if_pos ⟨h1,h4⟩]
  ·rw [if_neg fun h=>hl (ho.1 h)]
   by_cases hu:unl p t x
   ·rw [hs.1 hu]
    obtain ⟨h1,h2,h3⟩:=hu
    rw [if_neg (by omega),if_pos h1]
   ·rw [hs.2 hu]
    by_cases c:t<x.Time∨x.Place≠p
    ·rw [if_pos c]
    ·rw [if_neg c]
     have:¬x.Kind=4:=fun h=>hu ⟨h,by omega,by omega⟩
     rw [if_neg this]
     have:¬(x.Kind=3∧t<x.Until):=fun h=>hl ⟨h.1,by omega,by omega,h.2⟩
     rw [if_neg this]
open Classical in
theorem e6k (p t:Int):∀m:List o8,a3h (fun y=>if unl p t y then some false else none) m=if ∀y∈m,¬unl p t y then none else some false
 | []=>by simp [a3h]
 | y :: r=>by
  by_cases hu:unl p t y
  ·have:¬∀z∈y::r,¬unl p t z:=fun h=>h y (by simp) hu
   rw [if_neg this]
   simp only [a3h,if_pos hu]
  ·simp only [a3h,if_neg hu,e6k p t r]
   by_cases hr:∀z∈r,¬unl p t z
   ·have:∀z∈y::r,¬unl p t z:=fun z hz=>by
     rcases wZ.1 hz with rfl|hz
     ·exact hu
     ·exact hr z hz
    rw [if_pos hr,if_pos this]
   ·have:¬∀z∈y::r,¬unl p t z:=fun h=>hr fun z hz=>h z (by simp [hz])
    rw [if_neg hr,if_neg this]
open Classical in
theorem d5c {a:l5} {p t:Int} (hn:a.Events.length≤120) (h:F_1 a p=some true) {k:Nat} (hk:k<a.Events.length):∃b,d8r a p (k:Int) t=some b∧(b=true↔a7n p t a.Events k):=by
 have i1:a0l ((a.Events.length:Int) - 1)=true:=a00 (by omega) (by omega)
 have i2:decide (0≤(k:Int)∧(k:Int)≤(a.Events.length:Int) - 1)=true:=wU (by omega)
 have i3:inb (k:Int) a.Events.length=true:=u6.2 ⟨by omega,by omega⟩
 have i4:a0l ((k:Int)+1)=true:=a00 (by omega) (by omega)
 have i5:inc ((k:Int)+1) (a.Events.length:Int) a.Events.length=true:=a3t.2 ⟨by omega,by omega,by omega⟩
 have i6:((k:Int)+1).toNat=k+1:=by omega
 simp only [d8r,a7l,h,xY,w5,vN,o9 i1,b4y,i2,o9 i3,o9 i4,o9 i5,i6,xV,grp]
 by_cases c1:lnk p t (a.Events.getD k default)
 ·have c1':=c1
  unfold lnk at c1'
  have e:(!decide ((a.Events.getD k default).Kind=3)||!decide ((a.Events.getD k default).Place=p)||decide (t<(a.Events.getD k default).Time)||decide ((a.Events.getD k default).Until≤t))=false:=by
   simp only [xC,zK,Bool.not_eq_false',xN];omega
  simp only [e,vN]
  rw [a0t (fun y=>if unl p t y then some false else none) (a.Events.drop (k+1)) 0 fun k y _=>by
   simp only [f7x,grp]
   by_cases hu:unl p t y
   ·have e:(decide (y.Kind=4)&&decide (y.Place=p)&&decide (y.Time≤t))=true:=by
     simp only [wF,xN];exact ⟨⟨hu.1,hu.2.1⟩,hu.2.2⟩
    simp only [e,vP,if_pos hu,flO]
   ·have e:(decide (y.Kind=4)&&decide (y.Place=p)&&decide (y.Time≤t))=false:=by
     cases hh:(decide (y.Kind=4)&&decide (y.Place=p)&&decide (y.Time≤t)) with
     | false=>rfl
     | true =>
      simp only [wF,xN] at hh
      exact absurd ⟨hh.1.1,hh.1.2,hh.2⟩ hu
    simp only [e,vN,if_neg hu,flO]]
  simp only [xY,a2n,e6k]
  by_cases hr:∀y∈a.Events.drop (k+1),¬unl p t y
  ·simp only [if_pos hr]
   exact ⟨true,rfl,fun _=>⟨c1,hr⟩,fun _=>rfl⟩
  ·simp only [if_neg hr]
   exact ⟨false,rfl,iff_of_false (by simp) fun h=>hr h.2⟩
 ·have e:(!decide ((a.Events.getD k default).Kind=3)||!decide ((a.Events.getD k default).Place=p)||decide (t<(a.Events.getD k default).Time)||decide ((a.Events.getD k default).Until≤t))=true:=by
   unfold lnk at c1
   simp only [wS,xN,xW,zK];omega
  simp only [e,vP]
  exact ⟨false,rfl,iff_of_false (by simp) fun h=>c1 h.1⟩
open Classical in
theorem d5d {a:l5} {p t:Int} (hn:a.Events.length≤120) (h:F_1 a p=some true) {k:Nat} (hk:k<a.Events.length):d8r a p (k:Int) t=some (decide (a7n p t a.Events k)):=by
 obtain ⟨b,hb,hb2⟩:=d5c (t:=t) hn h hk
 rw [hb]
 by_cases c:a7n p t a.Events k
 ·rw [hb2.2 c,wU c]
 ·have:b=false:=by cases b with
   | false=>rfl
   | true=>exact absurd (hb2.1 rfl) c
  rw [this,wH c]
theorem c02 {a:l5} {p t:Int} (hn:a.Events.length≤120) (h:F_1 a p=some true):∀{n:Nat},n≤a.Events.length→∃r,loop (d8q a p t) ((n:Int) - 1)=some r∧Sum.elim (fun _=>some (0,false)) (fun u=>some u) r=some (c56 p t a.Events n)
 | 0,hl=>by
  rw [b1p]
  simp only [d8q]
  exact ⟨.inl (),rfl,rfl⟩
 | n+1,hl=>by
  classical
  rw [b1p]
  have e0:((n+1:Nat):Int) - 1=(n:Int):=by omega
  have e1:decide (0≤(n:Int))=true:=wU (by omega)
  rw [e0]
  simp only [d8q,e1,vP,d5d hn h (show n<a.Events.length by omega),xY,c56]
  by_cases c:a7n p t a.Events n
  ·simp only [c,decide_true,vP,xY,a1o,if_true]
   exact ⟨_,rfl,rfl⟩
  ·have i1:a0l ((n:Int) - 1)=true:=a00 (by omega) (by omega)
   simp only [c,decide_false,vN,o9 i1,xY,a2e,if_false]
   exact c02 hn h (by omega)
theorem c01 {a:l5} {p t:Int} (hn:a.Events.length≤120) (h:F_1 a p=some false):∀{n:Nat},n≤a.Events.length→loop (d8q a p t) ((n:Int) - 1)=some (.inl ())
 | 0,hl=>by
  rw [b1p]
  rfl
 | n+1,hl=>by
  rw [b1p]
  have e0:((n+1:Nat):Int) - 1=(n:Int):=by omega
  have e1:decide (0≤(n:Int))=true:=wU (by omega)
  have i1:a0l ((n:Int) - 1)=true:=a00 (by omega) (by omega)
  rw [e0]
  simp only [d8q,e1,vP,d8r,a7l,h,xY,wW,vN,o9 i1,a2e]
  exact c01 hn h (by omega)
theorem b3t (a:l5) (p t:Int) (hn:a.Events.length≤120):d9t a p t=F_5 a p t:=by
 have i1:a0l ((a.Events.length:Int) - 1)=true:=a00 (by omega) (by omega)
 simp only [d9t,o9 i1]
 rcases b1x a p with ⟨h,_⟩|h
 ·rw [a5h t h,←c9i]
  obtain ⟨r,h1,h2⟩:=c02 (t:=t) hn h (vK _)
  rw [h1]
  exact h2
 ·rw [c5x t h,c01 hn h (vK _)]
  rfl
end Go.Ab
namespace Go.Ab
open Go.Proofs
theorem a8w {d:d9} (hk:d.Kinds.length≤24) (p:Int):F_k d p=some (decide (0≤p∧p<d.Kinds.length)):=by
 unfold F_k
 rw [o9 (a3p (by omega) (by omega))]
 simp only [c8h,grp,xY]
 congr 1
 by_cases q:0≤p∧p<(d.Kinds.length:Int)
 ·rw [wU q,wU q.1,wU (show p≤(d.Kinds.length:Int) - 1 by omega)];rfl
 ·rw [wH q]
  by_cases q1:0≤p
  ·rw [wU q1,wH (show ¬p≤(d.Kinds.length:Int) - 1 by omega)];rfl
  ·rw [wH q1];rfl
theorem a5m {d:d9} (g:a1n d):F_l d=some true:=by
 have hk:=g.kl
 have he:=g.el
 have hin:∀x a b:Int,c8h x a b=some (decide (a≤x∧x≤b)):=fun x a b=>by simp [c8h,grp]
 refine Ok.eq ?_
 unfold F_l
 refine Ok.grp (Ok.ite (fun q=>?_) fun _=>Ok.bind (P:=fun o=>o=.nx ()) (Ok.for (fun _=>True) _ 0 () trivial (fun k x s hx _=>?_) fun s _=>rfl) fun o ho=>?_)
 ·simp only [wS,xN] at q;omega
 ·unfold g00
  rw [hin,wU (g.kd x hx)]
  exact Ok.ret trivial
 subst ho
 rw [a2e]
 refine Ok.bind (P:=fun o=>o=.nx ()) (Ok.forI (all:=d.Events) (fun _ _=>True) _ [] 0 () rfl rfl trivial (fun pre x r s hw _=>?_) fun s _=>rfl) fun o ho=>by subst ho;exact Ok.ret rfl
 have hx:x∈d.Events:=by rw [hw];simp
 obtain ⟨m1,m2,m3,m4,m5,m6⟩:=g.ev x hx
 have hgr:d8j d x.Group=some true:=by
  unfold d8j
  rw [a8w hk,wU (show 0≤x.Group∧x.Group<(d.Kinds.length:Int) from ⟨m5.1,m5.2.1⟩)]
  simp only [xY,vP,jn,o9 (u6.2 ⟨m5.1,m5.2.1⟩),wU m5.2.2]
 have hp:pre.length<d.Events.length:=by rw [hw];simp
 have rest:Ok ((F_k d x.Principal).bind fun y251=>bif (!y251) then some (.ex false) else (d8j d x.Group).bind fun y252=>bif (!y252) then some (.ex false) else bif decide (x.Principal=x.Group) then some (.ex false) else some (.nx ())) (Fl.elim (fun _:Unit=>True) fun r:Bool=>(Fl.ex r:Fl Unit Bool)=.nx ()):=by
  rw [a8w hk,wU m4,hgr]
  simp only [xY,w5,vN,wH m6]
  exact Ok.ret trivial
 unfold f8b
 rw [hin,hin,wU (show 1≤x.Kind∧x.Kind≤2 by omega),wU (show 0≤x.Time∧x.Time≤1099511627776 from ⟨m2,m3⟩)]
 simp only [xY,w5,vN]
 refine Ok.ite (fun q=>?_) fun _=>rest
 have q:0<(pre.length:Int):=by simpa using q
 have h1:(pre.length:Int) - 1<d.Events.length:=by omega
 refine Ok.chk (a3p (by omega) (by omega)) (Ok.chk (u6.2 ⟨by omega,h1⟩) (Ok.ite (fun w=>?_) fun _=>rest))
 exfalso
 have w:=of_decide_eq_true w
 have hlt:pre.length - 1<d.Events.length:=by omega
 have e:d.Events.getD ((pre.length:Int) - 1).toNat default=d.Events[pre.length - 1]:=by
  rw [show ((pre.length:Int) - 1).toNat=pre.length - 1 by omega,zE,zJ hlt];rfl
 have e2:d.Events[pre.length]=x:=by simp [hw]
 have:=(List.pairwise_iff_getElem.1 g.srt) (pre.length - 1) pre.length hlt hp (by omega)
 rw [e2] at this
 rw [e] at w
 omega
theorem c1y {d:d9} (g:a1n d) {p:Int} (t:Int) (h0:0≤p) (h1:p<d.Kinds.length):F_o d p t=some (upl d p t):=by
 have hk:=g.kl
 simp only [F_o,a5m g,a8w hk,wU (show 0≤p∧p<(d.Kinds.length:Int) from ⟨h0,h1⟩),xY,w5,vN]
 have hu:upF d.Kinds.length (d.Events.map fun e=>(e.Time,e.Kind,e.Principal,e.Group)) p t=some ((List.range d.Kinds.length).map (oul (dlk d t) d.Kinds.length (fun i=>decide (i=p.toNat)) d.Kinds.length)):=by
  unfold upF
  rw [o9,o9]
  ·simp [dlk]
  ·simp only [wE,vF]
   rintro _ ⟨e,he,rfl⟩
   obtain ⟨_,_,_,h4,h5,_⟩:=g.ev e he
   have e1:inb e.Principal 24=true:=u6.2 ⟨h4.1,by omega⟩
   have e2:inb e.Group 24=true:=u6.2 ⟨h5.1,by omega⟩
   simp [e1,e2]
  ·rw [u6.2 ⟨h0,h1⟩,wU hk];rfl
 rw [hu]
 generalize hy:(List.range d.Kinds.length).map (oul (dlk d t) d.Kinds.length (fun i=>decide (i=p.toNat)) d.Kinds.length)=y
 have hyl:y.length=d.Kinds.length:=by rw [←hy];simp
 have hyi:∀i,i<d.Kinds.length→gt y i=oul (dlk d t) d.Kinds.length (fun i=>decide (i=p.toNat)) d.Kinds.length i:=fun i hi=>by
  rw [←hy];simp [gt,zE,hi]
 have hpn:p.toNat<d.Kinds.length:=by omega
 have hRT:∀i,i<d.Kinds.length→(gt y i=true↔RT (dlk d t) d.Kinds.length p.toNat i):=fun i hi=>by
  rw [hyi i hi]
  constructor
  ·exact b6a (P:=fun i=>RT (dlk d t) d.Kinds.length p.toNat i) (fun a b ha hb h hl=>.step h ha hb hl) (fun i h=>by
    have:=of_decide_eq_true h
    subst this;exact .refl) _ i
  ·intro h
   induction h with
   | refl=>exact c09 (by simp) _
   | step h ha hb hl ih=>exact b3x hpn _ _ ha hb (ih ha) hl
 have ht:=b9n y (by omega)
 have hup:g0j=f2o:=rfl
 simp only [d9w] at ht
 simp only [xY,hup]
 rw [ht]
 simp only [upl,hyl]
 congr 2
 refine List.filter_congr fun i hi=>?_
 have:=hRT i (List.mem_range.1 hi)
 cases e:gt y i with
 | true=>simp [this.1 e]
 | false =>
  have h:¬RT (dlk d t) d.Kinds.length p.toNat i:=fun h=>by rw [this.2 h] at e;cases e
  simp [h]
theorem d4w (l:List Int) (x:Int):d3k l x=some (decide (x∈l)):=by
 simp only [d3k]
 rw [a0t (fun y=>if y=x then some true else none) l 0 (fun k y _=>by by_cases e:y=x<;>simp [f2e,e,flO])]
 simp only [xY,a2n]
 have:a3h (fun y=>if y=x then some true else none) l=if x∈l then some true else none:=by
  induction l with
  | nil=>rfl
  | cons y r ih =>
   by_cases e:y=x
   ·simp [a3h,e]
   ·have e':¬x=y:=fun h=>e h.symm
    simp [a3h,e,e',ih]
 rw [this]
 by_cases e:x∈l<;>simp [e]
open Classical in
theorem b8e {d:d9} {a:l5} {p pl t:Int} {U G:List Int} (h1:F_o d p t=some U) (h2:e02 a pl t=some G):e9d d a p pl t=some (decide (∃x∈G,x∈U)):=by
 simp only [e9d,h1,h2,xY]
 rw [a0t (fun y=>if y∈U then some true else none) G 0 (fun k y _=>by by_cases e:y∈U<;>simp [f7v,d4w,e,flO])]
 simp only [xY,a2n]
 have:a3h (fun y=>if y∈U then some true else none) G=if ∃x∈G,x∈U then some true else none:=by
  clear h1 h2
  induction G with
  | nil=>simp [a3h]
  | cons y r ih =>
   by_cases e:y∈U
   ·simp [a3h,e]
   ·simp only [a3h,if_neg e]
    rw [ih]
    simp [e]
 rw [this]
 by_cases e:∃x∈G,x∈U<;>simp [e]
open Classical in
theorem d4v {d:d9} {a:l5} (g:a1n d) (h:Good a) (p pl t:Int):e8a d a p pl t=some (decide (c3o d a p pl t)):=by
 simp only [e8a,a5m g,a7l,b3r g,b3t a pl t h.len,b1c,xY,w5,vN]
 by_cases c1:0≤pl∧pl≤a.Places - 1
 ·have hk:=b0i h c1.1 c1.2
  simp only [hk,xY,w5,vN]
  by_cases c:rdr d p
  ·simp only [wU c,w5,vN,a5h t hk,xY]
   cases e:(lkf pl t a.Events 0 (0,false)).2 with
   | true =>
    simp only [vP,jn,xY]
    rw [wU (show c3o d a p pl t from ⟨⟨c,c1⟩,.inl e⟩)]
   | false =>
    rw [b8e (c1y g t c.1 c.2.1) (by rw [b1c];exact a9a t h.len hk)]
    simp only [vN,jn,xY,b0g]
    congr 1
    refine decide_eq_decide.2 ⟨fun q=>⟨⟨c,c1⟩,.inr q⟩,fun q=>?_⟩
    rcases q.2 with q|q
    ·rw [e] at q;cases q
    ·exact q
  ·simp only [wH c,wW,vP]
   rw [wH (fun q:c3o d a p pl t=>c q.1.1)]
 ·have hk:F_1 a pl=some false:=by
   rw [b0j,wH (fun q:Good a∧0≤pl∧pl≤a.Places - 1=>c1 q.2)]
  simp only [hk,xY,wW,vP]
  rw [wH (fun q:c3o d a p pl t=>c1 q.1.2)]
end Go.Ab
namespace Go.Ab
open Go.Proofs
theorem b8z {a:l5} (g:Good a) (t:Int):Ok (e8b a t) fun n=>∃k:Nat,n=(k:Int)∧k≤a.Events.length∧(∀x∈a.Events.take k,x.Time≤t)∧∀x∈a.Events.drop k,t<x.Time:=by
 have hl:=g.len
 unfold e8b
 refine Ok.bind (Ok.loop (fun s:Int=>∃k:Nat,s=(k:Int)∧k≤a.Events.length∧∀x∈a.Events.take k,x.Time≤t) (fun s=>((a.Events.length:Int) - s).toNat) (fun s hs=>?_) _ ⟨0,rfl,by omega,by simp⟩) fun r hr=>Ok.ret hr
 obtain ⟨k,rfl,h1,h2⟩:=hs
 unfold f7y
 refine Ok.ite (fun q=>?_) fun q=>Ok.ret ⟨k,rfl,h1,h2,fun x hx=>?_⟩
 ·have q:(k:Int)<a.Events.length:=by simpa using q
  have hk:k<a.Events.length:=by omega
  have e:a.Events.getD (k:Int).toNat default=a.Events[k]:=by
   rw [xV,zE,zJ hk];rfl
  refine Ok.chk (u6.2 ⟨by omega,q⟩) ?_
  rw [e]
  refine Ok.ite (fun w=>Ok.chk (a3p (by omega) (by omega)) (Ok.ret ⟨⟨k+1,by simp,by omega,fun x hx=>?_⟩,by show ((a.Events.length:Int) - ((k:Int)+1)).toNat<((a.Events.length:Int) - (k:Int)).toNat;omega⟩)) fun w=>Ok.ret ⟨k,rfl,h1,h2,fun x hx=>?_⟩
  ·rw [List.take_succ,zJ hk] at hx
   simp only [Option.toList_some,wM,xG] at hx
   rcases hx with hx|rfl
   ·exact h2 x hx
   ·exact of_decide_eq_true w
  ·have w:¬a.Events[k].Time≤t:=of_decide_eq_false w
   rw [List.drop_eq_getElem_cons hk] at hx
   have hs:(a.Events.drop k).Pairwise fun x y=>x.Time≤y.Time:=g.srt.sublist (List.drop_sublist _ _)
   rw [List.drop_eq_getElem_cons hk,List.pairwise_cons] at hs
   rcases wZ.1 hx with rfl|hx
   ·omega
   ·have:=hs.1 x hx;omega
 ·have q:¬(k:Int)<a.Events.length:=by simpa using q
  rw [List.drop_eq_nil_of_le (by omega)] at hx
  cases hx
theorem c7i {c t:Int}:∀{E:List o8} {s:Int→Bool},(∀x∈E,x.Time≤t)→cfo c t E s=E.foldl (fun s x=>cst c x s) s
 | [],s,_=>rfl
 | x::r,s,h=>by
  simp only [cfo,wP,if_pos (h x (by simp))]
  exact c7i (E:=r) fun y hy=>h y (by simp [hy])
theorem d3d {c t:Int}:∀{E:List o8} {s:Int→Bool},(∀x∈E,t<x.Time)→cfo c t E s=s
 | [],s,_=>rfl
 | x::r,s,h=>by
  have:=h x (by simp)
  simp only [cfo,wP,if_neg (show ¬x.Time≤t by omega)]
  exact d3d (E:=r) fun y hy=>h y (by simp [hy])
theorem d0t {a:l5} {c t:Int} {k:Nat} (h1:∀x∈a.Events.take k,x.Time≤t) (h2:∀x∈a.Events.drop k,t<x.Time):hld a c t=(a.Events.take k).foldl (fun s x=>cst c x s) fun _=>false:=by
 have:hld a c t=cfo c t (a.Events.drop k) (cfo c t (a.Events.take k) fun _=>false):=by
  simp only [hld,cfo]
  rw [←List.foldl_append,List.take_append_drop]
 rw [this,d3d h2,c7i h1]
def bof (l:List Bool) (s:Int→Bool):Prop:=∀i:Int,0≤i→i<l.length→l.getD i.toNat default=s i
theorem d7w {l:List Bool} {s:Int→Bool} (h:bof l s) {p:Int} {b:Bool} (hp:0≤p) (hl:p<l.length):bof (l.set p.toNat b) (upd s p b):=by
 intro i h0 h1
 rw [List.length_set] at h1
 simp only [upd,zE,xQ]
 by_cases e:i=p
 ·subst e
  simp [show i.toNat<l.length by omega]
 ·rw [if_neg (by omega),if_neg e]
  have:=h i h0 h1
  rwa [zE] at this
theorem c9y {P c:Int} {l:List Bool} {s:Int→Bool} {x:o8} (k:Int) (h:xok P x) (hl:(l.length:Int)=P) (hw:bof l s):Ok (f2h c k x l) fun l'=>l'.length=l.length∧bof l' (cst c x s):=by
 obtain ⟨_,_,h3,h4,h5⟩:=h
 have hp:inb x.Place l.length=true:=u6.2 ⟨h3,by omega⟩
 have hP:=hw x.Place h3 (by omega)
 have fin:∀b b':Bool,b=b'→Ok (chk (inb x.Place l.length) (some (l.set x.Place.toNat b))) fun l'=>l'.length=l.length∧bof l' (upd s x.Place b'):=fun b b' e=>by
  subst e
  exact Ok.chk hp (Ok.ret ⟨by simp,d7w hw h3 (by omega)⟩)
 unfold f2h
 refine Ok.ite (fun q=>?_) fun q=>Ok.ite (fun q2=>?_) fun q2=>Ok.ite (fun q3=>?_) fun q3=>?_
 ·have q:x.Kind=5:=by simpa using q
  simp only [cst,if_pos q]
  refine Ok.chk hp (Ok.ite (fun w=>fin _ _ ?_) fun w=>fin _ _ ?_)
  ·rw [hP] at w;rw [w];rfl
  ·rw [hP] at w;rw [w];rfl
 ·have q:¬x.Kind=5:=by simpa using q
  have q2:x.Kind=6:=by simpa using q2
  simp only [cst,if_neg q,if_pos q2]
  refine Ok.chk hp (Ok.ite (fun w=>fin _ _ ?_) fun w=>fin _ _ ?_)
  ·rw [hP] at w;rw [w];rfl
  ·rw [hP] at w;rw [w];rfl
 ·have q:¬x.Kind=5:=by simpa using q
  have q2:¬x.Kind=6:=by simpa using q2
  have q3:x.Kind=7:=by simpa using q3
  simp only [cst,if_neg q,if_neg q2,if_pos q3]
  refine Ok.chk hp (Ok.ite (fun w=>fin _ _ ?_) fun w=>Ok.chk (u6.2 ⟨by omega,by omega⟩) (fin _ _ ?_))
  ·rw [hP] at w;rw [w];rfl
  ·rw [hP] at w;rw [w,hw x.From (by omega) (by omega)];rfl
 ·have q:¬x.Kind=5:=by simpa using q
  have q2:¬x.Kind=6:=by simpa using q2
  have q3:¬x.Kind=7:=by simpa using q3
  simp only [cst,if_neg q,if_neg q2,if_neg q3]
  exact Ok.ret ⟨rfl,hw⟩
theorem e1k {a:l5} (g:Good a) (c:Int) {k:Nat} (hk:k≤a.Events.length):Ok (e9g a c (k:Int)) fun l=>(l.length:Int)=a.Places∧bof l ((a.Events.take k).foldl (fun s x=>cst c x s) fun _=>false):=by
 have h2:=g.lo
 have h3:=g.hi
 unfold e9g
 refine Ok.chk (a2a.2 ⟨by omega,by omega,by omega⟩) (Ok.chk (a3t.2 ⟨by omega,by omega,by omega⟩) ?_)
 rw [xV]
 refine Ok.bind (Ok.foldI (all:=a.Events.take k) (fun pre l=>(l.length:Int)=a.Places∧bof l (pre.foldl (fun s x=>cst c x s) fun _=>false)) (a.Events.take k) [] 0 _ rfl rfl ⟨by simp;omega,fun i hi hl=>?_⟩ (fun pre x r s hw hs=>?_) fun s hs=>hs) fun s hs=>Ok.ret hs
 ·simp only [List.foldl_nil,List.length_replicate] at hl ⊢
  rw [zE,List.getElem?_replicate,if_pos (by omega)]
  rfl
 ·have hx:=g.ev x (List.mem_of_mem_take (i:=k) (by rw [hw];simp))
  refine Ok.mono (c9y _ hx hs.1 hs.2) fun l' hl'=>⟨by rw [hl'.1];exact hs.1,?_⟩
  simp only [List.foldl_append,wP,List.foldl_nil]
  exact hl'.2
end Go.Ab
namespace Go.Ab
open Go.Proofs Classical
theorem b4z:∀(xs:List Bool) (k:Nat) (s:List Int),s.length+xs.length≤1000→a09 f2g xs (k:Int) s=some (s++((List.range xs.length).filter fun i=>xs.getD i false).map fun i:Nat=>((k+i:Nat):Int))
 | [],k,s,_=>by simp [a09]
 | x::r,k,s,h=>by
  simp only [wB] at h
  have e1:((List.range (r.length+1)).filter fun i=>(x::r).getD i false)=(if x then [0] else [])++((List.range r.length).filter fun i=>r.getD i false).map fun i=>i+1:=by
   rw [List.range_succ_eq_map,List.filter_cons,List.filter_map]
   cases x<;>simp [Function.comp_def]
  have e2:((k:Int)+1)=((k+1:Nat):Int):=by omega
  have hm:(((List.range r.length).filter fun i=>r.getD i false).map fun i=>i+1).map (fun i:Nat=>((k+i:Nat):Int))=((List.range r.length).filter fun i=>r.getD i false).map fun i:Nat=>((k+1+i:Nat):Int):=by
   rw [List.map_map]
   refine List.map_congr_left fun i _=>?_
   simp only [Function.comp];omega
  rw [wB,e1,List.map_append,hm]
  simp only [a09,f2g]
  cases x with
  | false =>
   simp only [vN,xY]
   rw [e2,b4z r (k+1) s (by omega)]
   simp
  | true =>
   have hr:room (s.length+[(k:Int)].length) 8=true:=a2w (by simp;omega)
   simp only [vP,o9 hr,xY]
   rw [e2,b4z r (k+1) _ (by simp;omega)]
   simp
theorem c5c {a:l5} (g:Good a) {c:Int} (h0:0≤c) (h1:c≤63) (t:Int):e9f a c t=some (whr a c t):=by
 have hlo:=g.lo
 have hhi:=g.hi
 have hr:e8c a c=some true:=by
  simp only [e8c,valid_eq,wU g,xY,wU h0,wU h1,jn,grp,vP,w7]
 refine Ok.eq ?_
 simp only [e9f,hr,xY,w5,vN]
 refine Ok.bind (b8z g t) fun n hn=>?_
 obtain ⟨k,rfl,k1,k2,k3⟩:=hn
 refine Ok.bind (e1k g c k1) fun l hl=>?_
 obtain ⟨l1,l2⟩:=hl
 have:=b4z l 0 [] (by simp;omega)
 rw [show ((0:Nat):Int)=0 from rfl] at this
 rw [this]
 refine Ok.ret ?_
 have e2:=d0t (c:=c) k2 k3
 rw [←e2] at l2
 rw [e07 g h0 h1]
 have e:l.length=a.Places.toNat:=by omega
 simp only [wK,vB,e]
 congr 1
 refine List.filter_congr fun i hi=>?_
 have hi:=List.mem_range.1 hi
 have:=l2 (i:Int) (by omega) (by omega)
 rw [xV] at this
 exact this
end Go.Ab
set_option maxRecDepth 20000
namespace Go.Ab
open Go.Proofs Classical
theorem c6m {T U:List Int} {q:Int→Bool} (hT:T.Pairwise fun x y=>x≤y) (hU:U.Pairwise fun x y=>x≤y) (h:∀t,t∈T↔t∈U):T.find? q=U.find? q:=by
 cases e:U.find? q with
 | none=>rw [List.find?_eq_none] at e ⊢;exact fun x hx=>e x ((h x).1 hx)
 | some t =>
  obtain ⟨t',e1,l1⟩:=b47 hT ((h t).2 (List.mem_of_find?_eq_some e)) (List.find?_some e)
  obtain ⟨t2,e2,l2⟩:=b47 hU ((h t').1 (List.mem_of_find?_eq_some e1)) (List.find?_some e1)
  rw [e] at e2;cases e2
  rw [e1,show t'=t by omega]
def d99 (d:d9) (p:Int):Prop:=p=-1∨rdr d p
theorem b3q {d:d9} {a:l5} (g:a1n d) (h:Good a) {c p:Int} (h0:0≤c) (h1:c≤63):d8i d a c p=some (decide (d99 d p)):=by
 by_cases hp:p=-1
 ·have:decide (d99 d p)=true:=wU (.inl hp)
  simp only [d8i,a5m g,valid_eq,wU h,wU h0,wU h1,wU hp,jn,grp,vP,vN,xY,w7,this]
 ·have:decide (d99 d p)=decide (rdr d p):=decide_eq_decide.2 ⟨fun e=>e.resolve_left hp,.inr⟩
  simp only [d8i,a5m g,valid_eq,wU h,wU h0,wU h1,wH hp,b3r g,jn,grp,vP,vN,xY,w7,this]
theorem c9q {d:d9} {a:l5} {c p t:Int} (hr:¬d99 d p):pla d a c p t=none:=by
 unfold pla
 rw [List.find?_eq_none]
 intro x _
 simp only [see,if_neg fun e=>hr (.inl e),xN]
 exact fun hm=>hr (.inr hm.1.1)
theorem c2g {d:d9} {a:l5} (g:a1n d) (h:Good a) {c p t:Int} (h0:0≤c) (h1:c≤63) (hr:d99 d p) (t0:0≤t) (t1:t≤1099511627776):e9c d a c p t=some (pla d a c p t).isSome:=by
 unfold e9c
 rw [b3q g h h0 h1,xY,wU hr]
 simp only [grp,wH (show ¬t<0 by omega),wH (show ¬1099511627776<t by omega),w5,Bool.or_self,vN]
 rw [c5c h h0 h1,xY]
 rw [a0t (fun x=>if see d a p t x then some true else none) (whr a c t) 0 fun k x hm=>by
  have hx:=c3v h h0 h1 t x hm
  by_cases hp:p=-1
  ·simp only [f2d,wU hp,vP,b3t a x t h.len,a5h t (b0i h hx.1 hx.2),xY,see,if_pos hp]
   cases (lkf x t a.Events 0 (0,false)).2<;>simp [flO]
  ·simp only [f2d,wH hp,vN,d4v g h,xY,see,if_neg hp]
   by_cases q:c3o d a p x t<;>simp [q,flO]]
 simp only [xY,a2n,a4g,pla]
 cases (whr a c t).find? (see d a p t)<;>rfl
theorem c1z {a:l5} (h:Good a):Ok (e9h a) fun ts=>ts.length≤a.Events.length∧(ts.Pairwise fun x y=>x≤y)∧∀t,t∈ts↔∃x∈a.Events,x.Time=t:=by
 have hl:=h.len
 unfold e9h
 rw [valid_eq,wU h,xY,w5,vN]
 refine Ok.bind (Ok.foldI (all:=a.Events) (fun pre ts=>ts.length≤pre.length∧(ts.Pairwise fun x y=>x≤y)∧∀t,t∈ts↔∃x∈pre,x.Time=t) a.Events [] 0 _ rfl rfl ⟨vK _,List.Pairwise.nil,by simp⟩ (fun pre x r s hw hs=>?_) fun s hs=>hs) fun s hs=>Ok.ret hs
 obtain ⟨s1,s3,s2⟩:=hs
 have hp:pre.length<a.Events.length:=by rw [hw];simp
 have hsr:=h.srt
 rw [hw,List.pairwise_append] at hsr
 have hle:∀t∈s,t≤x.Time:=fun t ht=>by
  obtain ⟨y,hy,e⟩:=(s2 t).1 ht
  have:=hsr.2.2 y hy x (by simp)
  omega
 have hadd:(s++[x.Time]).length≤(pre++[x]).length∧((s++[x.Time]).Pairwise fun x y=>x≤y)∧∀t,t∈s++[x.Time]↔∃y∈pre++[x],y.Time=t:=by
  refine ⟨by simp;omega,?_,fun t=>?_⟩
  ·rw [List.pairwise_append]
   exact ⟨s3,by simp,fun t ht u hu=>by rw [xG] at hu;subst hu;exact hle t ht⟩
  rw [wM,s2,xG]
  constructor
  ·rintro (⟨y,hy,e⟩|rfl)
   ·exact ⟨y,List.mem_append_left _ hy,e⟩
   ·exact ⟨x,zU _ (xG.2 rfl),rfl⟩
  ·rintro ⟨y,hy,e⟩
   rcases wM.1 hy with hy|hy
   ·exact .inl ⟨y,hy,e⟩
   ·rw [xG] at hy;subst hy;exact .inr e.symm
 have hr:room (s.length+[x.Time].length) 8=true:=a2w (by simp only [zV];omega)
 unfold f8a
 refine Ok.ite (fun _=>Ok.chk hr (Ok.ret hadd)) fun c1=>?_
 have c1:=of_decide_eq_false c1
 refine Ok.chk (a3p (by omega) (by omega)) (Ok.chk (u6.2 ⟨by omega,by omega⟩) (Ok.ite (fun _=>Ok.chk hr (Ok.ret hadd)) fun c2=>Ok.ret ⟨by simp;omega,s3,fun t=>?_⟩))
 have c2:s.getD ((s.length:Int) - 1).toNat default=x.Time:=by simpa using c2
 have hm:x.Time∈s:=by
  rw [←c2,zE,zJ (by omega)]
  exact wC _
 rw [←hadd.2.2 t,wM,xG]
 exact ⟨.inl,fun e=>e.elim id fun e=>e▸hm⟩
theorem c96 {d:d9} {a:l5} (g:a1n d) (h:Good a):Ok (e9z d a) fun ts=>(ts.Pairwise fun x y=>x≤y)∧∀t,t∈ts↔t∈tms d a:=by
 have hl:=h.len
 have hd:=g.el
 unfold e9z
 refine Ok.bind (c1z h) fun s0 hs0=>Ok.bind (Ok.foldI (all:=d.Events) (fun pre ts=>ts.length≤120+pre.length∧(ts.Pairwise fun x y=>x≤y)∧∀t,t∈ts↔(∃x∈a.Events,x.Time=t)∨∃x∈pre,x.Time=t) d.Events [] 0 _ rfl rfl ⟨by simp;omega,hs0.2.1,fun t=>by rw [hs0.2.2];simp⟩ (fun pre x r s hw hs=>?_) fun s hs=>hs) fun s hs=>Ok.ret ⟨hs.2.1,fun t=>by rw [hs.2.2,b8q]⟩
 obtain ⟨s1,s3,s2⟩:=hs
 have hp:pre.length<d.Events.length:=by rw [hw];simp
 unfold f7z
 refine Ok.bind (P:=fun r:Int=>(0≤r∧r≤s.length)∧(∀y∈s.take r.toNat,y≤x.Time)∧∀y∈s.drop r.toNat,x.Time≤y) (Ok.loop (fun r:Int=>(0≤r∧r≤s.length)∧∀y∈s.take r.toNat,y≤x.Time) (fun r=>((s.length:Int) - r).toNat) (fun r hr=>?_) _ ⟨⟨vM 0,by omega⟩,by simp⟩) fun r hr=>?_
 ·obtain ⟨⟨r0,r1⟩,r2⟩:=hr
  unfold f9z
  refine Ok.ite (fun c=>?_) fun c=>Ok.ret ⟨⟨r0,r1⟩,r2,fun y hy=>?_⟩
  ·have c:=of_decide_eq_true c
   have hlt:r.toNat<s.length:=by omega
   have hg:s.getD r.toNat default=s[r.toNat]:=by rw [zE,zJ hlt];rfl
   refine Ok.chk (u6.2 ⟨r0,by omega⟩) (Ok.ite (fun c2=>Ok.chk (a3p (by omega) (by omega)) (Ok.ret ⟨⟨⟨by omega,by omega⟩,fun y hy=>?_⟩,by omega⟩)) fun c2=>Ok.ret ⟨⟨r0,r1⟩,r2,fun y hy=>?_⟩)
   ·have c2:=of_decide_eq_true c2
    rw [hg] at c2
    rw [show (r+1).toNat=r.toNat+1 by omega,List.take_succ_eq_append_getElem hlt] at hy
    rcases wM.1 hy with hy|hy
    ·exact r2 y hy
    ·rw [xG] at hy;omega
   ·have c2:=of_decide_eq_false c2
    rw [hg] at c2
    have hd:s.drop r.toNat=s[r.toNat]::s.drop (r.toNat+1):=List.drop_eq_getElem_cons hlt
    have hpw:=s3.drop (i:=r.toNat)
    rw [hd] at hy hpw
    rw [List.pairwise_cons] at hpw
    rcases wZ.1 hy with rfl|hy
    ·omega
    ·have:=hpw.1 y hy;omega
  ·have c:=of_decide_eq_false c
   rw [List.drop_eq_nil_of_le (by omega)] at hy
   simp at hy
 ·obtain ⟨⟨r0,r1⟩,r2,r3⟩:=hr
  have key:s.take r.toNat++s.drop r.toNat=s:=List.take_append_drop _ _
  have ed:(s.drop r.toNat).take (s.length - r.toNat)=s.drop r.toNat:=zP (by simp)
  have hmem:∀t,(t∈s∨t=x.Time)↔(∃y∈a.Events,y.Time=t)∨∃y∈pre++[x],y.Time=t:=fun t=>by
   rw [s2]
   constructor
   ·rintro ((e|⟨y,hy,e⟩)|rfl)
    ·exact .inl e
    ·exact .inr ⟨y,List.mem_append_left _ hy,e⟩
    ·exact .inr ⟨x,zU _ (xG.2 rfl),rfl⟩
   ·rintro (e|⟨y,hy,e⟩)
    ·exact .inl (.inl e)
    ·rcases wM.1 hy with hy|hy
     ·exact .inl (.inr ⟨y,hy,e⟩)
     ·rw [xG] at hy;subst hy;exact .inr e.symm
  have hadd:(s.take r.toNat++([x.Time]++(s.drop r.toNat).take (s.length - r.toNat))).length≤120+(pre++[x]).length∧((s.take r.toNat++([x.Time]++(s.drop r.toNat).take (s.length - r.toNat))).Pairwise fun x y=>x≤y)∧∀t,t∈s.take r.toNat++([x.Time]++(s.drop r.toNat).take (s.length - r.toNat))↔(∃y∈a.Events,y.Time=t)∨∃y∈pre++[x],y.Time=t:=by
   rw [ed]
   refine ⟨by simp only [xI,wA,List.length_drop,zV];omega,?_,fun t=>?_⟩
   ·have hs:=s3
    rw [←key,List.pairwise_append] at hs
    rw [List.pairwise_append,List.singleton_append,List.pairwise_cons]
    refine ⟨hs.1,⟨r3,hs.2.1⟩,fun y hy z hz=>?_⟩
    rcases wZ.1 hz with rfl|hz
    ·exact r2 y hy
    ·exact hs.2.2 y hy z hz
   rw [←hmem]
   have:t∈s↔t∈s.take r.toNat∨t∈s.drop r.toNat:=by rw [←wM,key]
   rw [this]
   simp only [wM,xG]
   constructor
   ·rintro (e|e|e)
    ·exact .inl (.inl e)
    ·exact .inr e
    ·exact .inl (.inr e)
   ·rintro ((e|e)|e)
    ·exact .inl e
    ·exact .inr (.inr e)
    ·exact .inr (.inl e)
  have add:Ok (chk (inc 0 r s.length) (chk (inc r (s.length:Int) s.length) (chk (room ([x.Time].length+((s.drop r.toNat).take (s.length - r.toNat)).length) 8) (chk (b8d 0 r.toNat s.length ([x.Time]++(s.drop r.toNat).take (s.length - r.toNat)).length 8) (some (s.take r.toNat++([x.Time]++(s.drop r.toNat).take (s.length - r.toNat)))))))) fun ts=>ts.length≤120+(pre++[x]).length∧(ts.Pairwise fun x y=>x≤y)∧∀t,t∈ts↔(∃y∈a.Events,y.Time=t)∨∃y∈pre++[x],y.Time=t :=
   Ok.chk (a3t.2 ⟨by omega,by omega,by omega⟩) (Ok.chk (a3t.2 ⟨by omega,by omega,by omega⟩) (Ok.chk (a2w (by rw [ed];simp only [zV,List.length_drop];omega)) (Ok.chk (b66.2 ⟨by omega,by rw [ed];simp only [xI,zV,List.length_drop];omega⟩) (Ok.ret hadd))))
  refine Ok.ite (fun _=>add) fun c1=>?_
  have c1:=of_decide_eq_false c1
  refine Ok.chk (u6.2 ⟨r0,by omega⟩) (Ok.ite (fun _=>add) fun c2=>Ok.ret ⟨by simp;omega,s3,fun t=>?_⟩)
  have c2:s.getD r.toNat default=x.Time:=by simpa using c2
  have hm:x.Time∈s:=by
   rw [←c2,zE,zJ (by omega)]
   exact wC _
  rw [←hmem]
  exact ⟨.inl,fun e=>e.elim id fun e=>e▸hm⟩
theorem c4n {d:d9} {a:l5} (g:a1n d) (h:Good a) {c p:Int} (h0:0≤c) (h1:c≤63):e9b d a c p=some (d35 (sin d a c p)):=by
 refine Ok.eq ?_
 unfold e9b
 rw [b3q g h h0 h1,xY]
 by_cases hr:d99 d p
 ·rw [wU hr,w5,vN]
  refine Ok.bind (c96 g h) fun ts hts=>?_
  rw [a0t (fun t=>if (pla d a c p t).isSome then some (t,true) else none) ts 0 fun k t ht=>by
   have hb:0≤t∧t≤1099511627776:=by
    rcases b8q.1 ((hts.2 t).1 ht) with ⟨x,hx,rfl⟩|⟨x,hx,rfl⟩
    ·exact ⟨(h.ev x hx).1,(h.ev x hx).2.1⟩
    ·exact ⟨(g.ev x hx).2.1,(g.ev x hx).2.2.1⟩
   simp only [f7u,c2g g h h0 h1 hr hb.1 hb.2,xY]
   cases pla d a c p t<;>simp [flO]]
  simp only [xY,a2n,a4g]
  have e:(ts.find? fun t=>(pla d a c p t).isSome)=sin d a c p:=c6m hts.1 (c1p d a) hts.2
  rw [e]
  cases sin d a c p<;>exact Ok.ret rfl
 ·rw [wH hr,wW,vP]
  have:sin d a c p=none:=by
   unfold sin
   rw [List.find?_eq_none]
   intro t _
   rw [c9q hr];simp
  rw [this]
  exact Ok.ret rfl
theorem c5e {d:d9} {a:l5} (g:a1n d) (h:Good a) {c:Int} (h0:0≤c) (h1:c≤63):e00 d a c=some (a9x d a c,0):=by
 refine Ok.eq ?_
 have hk:=g.kl
 unfold e00
 rw [a5m g,xY,w5,vN,valid_eq,wU h,xY,w5,vN]
 refine Ok.grp (Ok.ite (fun q=>by simp only [wS,xN] at q;omega) fun _=>?_)
 refine Ok.bind (P:=fun r=>r=a9x d a c) (Ok.loop (fun s:Int×List z8=>∃n:Nat,n≤d.Kinds.length+1∧s.1=(n:Int) - 1∧s.2=b0q d a c n (-1)) (fun s=>((d.Kinds.length:Int) - s.1).toNat) (fun s hs=>?_) _ ⟨0,by omega,rfl,rfl⟩) fun r hr=>Ok.ret (by rw [hr])
 obtain ⟨p,l⟩:=s
 obtain ⟨n,hn,e1,e2⟩:=hs
 simp only at e1 e2
 subst e1 e2
 unfold f7t
 refine Ok.ite (fun q=>?_) fun q=>?_
 ·have q:(n:Int) - 1<d.Kinds.length:=by simpa using q
  have hl:=a6b d a c n (-1)
  refine Ok.jn (P:=fun j=>j=b0q d a c (n+1) (-1)) (Ok.bind (Ok.of (c4n g h h0 h1) rfl) fun y hy=>?_) fun j hj=>Ok.chk (a3p (by omega) (by omega)) (Ok.ret ⟨⟨n+1,by omega,by simp,hj⟩,?_⟩)
  ·subst hy
   rw [b2h,show (-1:Int)+n=n - 1 by omega]
   cases sin d a c ((n:Int) - 1) with
   | none=>exact Ok.ret (by simp)
   | some t=>exact Ok.chk (a2w (by simp;omega)) (Ok.ret rfl)
  ·show ((d.Kinds.length:Int) - ((n:Int) - 1+1)).toNat<((d.Kinds.length:Int) - ((n:Int) - 1)).toNat
   omega
 ·have q:¬(n:Int) - 1<d.Kinds.length:=by simpa using q
  have:n=d.Kinds.length+1:=by omega
  subst this
  exact Ok.ret rfl
theorem c5d {d:d9} {a:l5} (g:a1n d) (h:Good a) {c:Int} (h0:0≤c) (h1:c≤63):Ok (e9a d a c) fun y=>(a9x d a c=[]∧y.2=false)∨(y.2=true∧(∃x∈a9x d a c,y.1=x.Time)∧∀x∈a9x d a c,y.1≤x.Time):=by
 unfold e9a
 rw [c5e g h h0 h1,xY]
 refine Ok.bind (Ok.foldI (all:=a9x d a c) (fun pre y=>(pre=[]∧y.2=false)∨(y.2=true∧(∃x∈pre,y.1=x.Time)∧∀x∈pre,y.1≤x.Time)) (a9x d a c) [] 0 _ rfl rfl (.inl ⟨rfl,rfl⟩) (fun pre x r s _ hs=>?_) fun s hs=>hs) fun y hy=>Ok.ret hy
 unfold f7s
 refine Ok.grp (Ok.grp (Ok.ite (fun q=>Ok.ret (.inr ⟨rfl,⟨x,by simp,rfl⟩,fun y hy=>?_⟩)) fun q=>Ok.ret (.inr ?_)))
 ·simp only [wS,xW,xN] at q
  rcases wM.1 hy with hy|hy
  ·rcases hs with ⟨rfl,e⟩|⟨e,_,hl⟩
   ·simp at hy
   ·rcases q with q|q
    ·rw [e] at q;cases q
    ·have:=hl y hy
     simp only;omega
  ·rw [xG] at hy;subst hy;exact vM _
 ·simp only [xC,Bool.not_eq_false',zK] at q
  rcases hs with ⟨_,e⟩|⟨e,⟨z,hz,e2⟩,hl⟩
  ·rw [e] at q;cases q.1
  ·refine ⟨e,⟨z,List.mem_append_left _ hz,e2⟩,fun y hy=>?_⟩
   rcases wM.1 hy with hy|hy
   ·exact hl y hy
   ·rw [xG] at hy;subst hy
    have:=q.2
    simp only;omega
end Go.Ab
namespace Go.Ab
open Go.Proofs
section search
variable {L:Nat→Nat→Bool} {n:Nat}
theorem b5z {a b:Nat} {f:Nat→Bool} {i:Nat} (h:f i=true):Go.Proofs.stp L a b f i=true:=by
 simp only [Go.Proofs.stp];split
 ·subst_vars;simp [h]
 ·exact h
theorem a7v {a:Nat} {f:Nat→Bool} {i:Nat} (h:f i=true):∀b,Go.Proofs.inn L a f b i=true
 | 0=>h
 | b+1=>b5z (a7v h b)
theorem a4a {f:Nat→Bool} {i:Nat} (h:f i=true):∀a,Go.Proofs.midd L n f a i=true
 | 0=>h
 | a+1=>a7v (a4a h a) n
theorem d6s {a:Nat} {f:Nat→Bool} {i b:Nat} (h:Go.Proofs.inn L a f b i=true):∀c,b≤c→Go.Proofs.inn L a f c i=true:=by
 intro c hc
 induction c with
 | zero =>
  have:b=0:=by omega
  subst this;exact h
 | succ c ih =>
  by_cases e:b=c+1
  ·subst e;exact h
  ·exact b5z (ih (by omega))
theorem d02 {f:Nat→Bool} {i b:Nat} (h:Go.Proofs.midd L n f b i=true):∀c,b≤c→Go.Proofs.midd L n f c i=true:=by
 intro c hc
 induction c with
 | zero =>
  have:b=0:=by omega
  subst this;exact h
 | succ c ih =>
  by_cases e:b=c+1
  ·subst e;exact h
  ·exact a7v (ih (by omega)) n
theorem c2m {f:Nat→Bool} {a b:Nat} (ha:a<n) (hb:b<n) (h:f a=true) (hl:L a b=true):Go.Proofs.midd L n f n b=true:=by
 refine d02 (b:=a+1) ?_ n (by omega)
 show Go.Proofs.inn L a (Go.Proofs.midd L n f a) n b=true
 refine d6s (b:=b+1) ?_ n (by omega)
 show Go.Proofs.stp L a b (Go.Proofs.inn L a (Go.Proofs.midd L n f a) b) b=true
 have h1:=a7v (L:=L) (a:=a) (a4a (L:=L) (n:=n) h a) b
 simp [Go.Proofs.stp,h1,hl]
theorem b44 {P:Nat→Prop} {a:Nat} (ha:a<n) (hP:∀a b,a<n→b<n→P a→L a b=true→P b) {f:Nat→Bool} (hf:∀i,f i=true→P i):∀b,b≤n→∀i,Go.Proofs.inn L a f b i=true→P i
 | 0,_,i,h=>hf i h
 | b+1,hb,i,h=>by
  have ih:=b44 ha hP hf b (by omega)
  simp only [Go.Proofs.inn,Go.Proofs.stp] at h
  split at h
  ·rename_i e
   subst e
   rw [wS,wF] at h
   rcases h with h|h
   ·exact ih _ h
   ·exact hP a i ha (by omega) (ih a h.1) h.2
  ·exact ih i h
theorem a6t {P:Nat→Prop} (hP:∀a b,a<n→b<n→P a→L a b=true→P b) {f:Nat→Bool} (hf:∀i,f i=true→P i):∀a,a≤n→∀i,Go.Proofs.midd L n f a i=true→P i
 | 0,_,i,h=>hf i h
 | a+1,ha,i,h=>b44 (by omega) hP (a6t hP hf a (by omega)) n (vK _) i h
theorem b3w {P:Nat→Prop} (hP:∀a b,a<n→b<n→P a→L a b=true→P b) {f:Nat→Bool} (hf:∀i,f i=true→P i):∀k i,Go.Proofs.oul L n f k i=true→P i
 | 0,i,h=>hf i h
 | k+1,i,h=>a6t hP (b3w hP hf k) n (vK _) i h
theorem b6b {f:Nat→Bool} {i:Nat} (h:f i=true):∀k,Go.Proofs.oul L n f k i=true
 | 0=>h
 | k+1=>a4a (b6b h k) n
def c3p (f:Nat→Bool):Nat→Nat
 | 0=>0
 | n+1=>c3p f n+bif f n then 1 else 0
theorem c7a (f:Nat→Bool):∀n,c3p f n≤n
 | 0=>vK 0
 | n+1=>by have:=c7a f n;simp only [c3p];cases f n<;>simp<;>omega
theorem b7d {f g:Nat→Bool} (h:∀i,f i=true→g i=true):∀n,c3p f n≤c3p g n
 | 0=>vK 0
 | n+1=>by
  have ih:=b7d h n
  simp only [c3p]
  cases hf:f n with
  | true=>rw [h n hf];simp;exact ih
  | false=>cases g n<;>simp<;>omega
theorem c79 {f g:Nat→Bool} (h:∀i,f i=true→g i=true) {j:Nat} (hf:f j=false) (hg:g j=true):∀n,j<n→c3p f n<c3p g n
 | 0,hj=>absurd hj (Nat.not_lt_zero _)
 | n+1,hj=>by
  simp only [c3p]
  by_cases e:j=n
  ·subst e
   have:=b7d h j
   rw [hf,hg];simp;omega
  ·have:=c79 h hf hg n (by omega)
   cases hfn:f n with
   | true=>rw [h n hfn];simp;exact this
   | false=>cases g n<;>simp<;>omega
theorem c1h {f:Nat→Bool} {j:Nat} (hf:f j=true):∀n,j<n→1≤c3p f n
 | 0,hj=>absurd hj (Nat.not_lt_zero _)
 | n+1,hj=>by
  simp only [c3p]
  by_cases e:j=n
  ·subst e;rw [hf];simp
  ·have:=c1h hf n (by omega);omega
def g0x (L:Nat→Nat→Bool) (n:Nat) (f:Nat→Bool):Prop:=∀a b,a<n→b<n→f a=true→L a b=true→f b=true
theorem c0c {c:Nat} (hc:c<n):∀k,g0x L n (Go.Proofs.oul L n (fun i=>decide (i=c)) k)∨k+1≤c3p (Go.Proofs.oul L n (fun i=>decide (i=c)) k) n
 | 0=>.inr (c1h (j:=c) (by simp [Go.Proofs.oul]) n hc)
 | k+1=>by
  have ih:=c0c hc k
  by_cases hcl:g0x L n (Go.Proofs.oul L n (fun i=>decide (i=c)) k)
  ·left
   have e:Go.Proofs.oul L n (fun i=>decide (i=c)) (k+1)=Go.Proofs.oul L n (fun i=>decide (i=c)) k:=by
    funext i
    rw [wT]
    exact ⟨fun h=>a6t (P:=fun i=>Go.Proofs.oul L n (fun i=>decide (i=c)) k i=true) hcl (fun i h=>h) n (vK _) i h,fun h=>a4a h n⟩
   rw [e];exact hcl
  ·right
   have ih:=ih.resolve_left hcl
   have:∃a b,a<n∧b<n∧Go.Proofs.oul L n (fun i=>decide (i=c)) k a=true∧L a b=true∧Go.Proofs.oul L n (fun i=>decide (i=c)) k b=false:=Classical.byContradiction fun hn=>hcl fun a b ha hb h hl=>by
    cases hb':Go.Proofs.oul L n (fun i=>decide (i=c)) k b with
    | true=>rfl
    | false=>exact absurd ⟨a,b,ha,hb,h,hl,hb'⟩ hn
   obtain ⟨a,b,ha,hb,h,hl,hb'⟩:=this
   have:=c79 (f:=Go.Proofs.oul L n (fun i=>decide (i=c)) k) (g:=Go.Proofs.oul L n (fun i=>decide (i=c)) (k+1)) (fun i h=>a4a h n) hb' (c2m ha hb h hl) n hb
   omega
theorem b8n {c:Nat} (hc:c<n):g0x L n (Go.Proofs.oul L n (fun i=>decide (i=c)) n):=(c0c hc n).resolve_right fun h=>by have:=c7a (Go.Proofs.oul L n (fun i=>decide (i=c)) n) n;omega
end search
theorem a4q {α ρ:Type} {body:Int→α→Unit→Option (Fl Unit ρ)} (v:ρ) (p:α→Prop) [DecidablePred p]:∀(xs:List α) (k:Int),(∀k x,x∈xs→body k x ()=some (if p x then .ex v else .nx ()))→[Decidable (∃x∈xs,p x)] →
  a0x body xs k ()=some (if ∃x∈xs,p x then .ex v else .nx ())
 | [],k,h,_=>by simp [a0x]
 | x :: r,k,h,_=>by
  simp only [a0x,h k x (by simp)]
  by_cases c:p x
  ·have:∃y∈x::r,p y:=⟨x,by simp,c⟩
   simp only [if_pos c,xY,a1o,if_pos this]
  ·have:=Classical.propDecidable (∃y∈r,p y)
   simp only [if_neg c,xY,a2e]
   rw [a4q v p r (k+1) fun k y hy=>h k y (by simp [hy])]
   by_cases d:∃y∈r,p y
   ·have:∃y∈x::r,p y:=by obtain ⟨y,hy,hp⟩:=d;exact ⟨y,by simp [hy],hp⟩
    rw [if_pos d,if_pos this]
   ·have:¬∃y∈x::r,p y:=by
     rintro ⟨y,hy,hp⟩
     rcases wZ.1 hy with rfl|hy
     ·exact c hp
     ·exact d ⟨y,hy,hp⟩
    rw [if_neg d,if_neg this]
open Classical in
theorem c4t (x:l6) (a b:Int):F_2 x a b=some (decide (leads x a b)):=by
 unfold F_2
 rw [a4q true (fun m:a0p=>m.From=a∧m.To=b) x.Mints 0 fun k m _=>by
  simp only [g0i,grp]
  by_cases c:m.From=a∧m.To=b
  ·simp [c.1,c.2]
  ·rw [if_neg c]
   have:(decide (m.From=a)&&decide (m.To=b))=false:=by simpa using c
   rw [this];rfl]
 by_cases h1:∃m∈x.Mints,m.From=a∧m.To=b
 ·have:leads x a b:=.inl h1
  simp only [if_pos h1,xY,a1o,wU this]
 ·simp only [if_neg h1,xY,a2e]
  rw [a4q true (fun g:a02=>g.Credential=a∧∃s∈x.Stores,s.Resource=g.Resource∧s.Credential=b) x.Grants 0 fun k g _=>by
   simp only [f7r]
   rw [a4q true (fun s:a08=>s.Resource=g.Resource∧s.Credential=b) x.Stores 0 fun k s _=>by
    simp only [f9y,grp]
    by_cases c:s.Resource=g.Resource∧s.Credential=b
    ·simp [c.1,c.2]
    ·rw [if_neg c]
     have:(decide (s.Resource=g.Resource)&&decide (s.Credential=b))=false:=by simpa using c
     rw [this];rfl]
   by_cases c:g.Credential=a
   ·by_cases d:∃s∈x.Stores,s.Resource=g.Resource∧s.Credential=b
    ·simp only [c,decide_true,w5,vN,true_and,if_pos d,xY,a1o]
    ·simp only [c,decide_true,w5,vN,true_and,if_neg d,xY,a2e]
   ·simp only [wH c,wW,vP,if_neg (show ¬(g.Credential=a∧_) from fun h=>c h.1)]]
  by_cases h2:∃g∈x.Grants,g.Credential=a∧∃s∈x.Stores,s.Resource=g.Resource∧s.Credential=b
  ·have:leads x a b:=by
    obtain ⟨g,hg,e,s,hs,e1,e2⟩:=h2
    exact .inr ⟨g,hg,s,hs,e,e1,e2⟩
   simp only [if_pos h2,xY,a1o,wU this]
  ·have:¬leads x a b:=by
    rintro (h|⟨g,hg,s,hs,e,e1,e2⟩)
    ·exact h1 h
    ·exact h2 ⟨g,hg,e,s,hs,e1,e2⟩
   simp only [if_neg h2,xY,a2e,wH this]
theorem a8v (n lo hi:Int):F_7 n lo hi=some (decide (lo≤n∧n≤hi)):=by simp [F_7,grp]
open Classical in
theorem b0x (x:l6):F_d x=some (decide (a1d x)):=by
 simp only [F_d,a8v,xY,grp]
 by_cases h1:0≤x.Credentials∧x.Credentials≤24
 ·by_cases h2:0≤x.Resources∧x.Resources≤24
  ·by_cases h3:x.Grants.length≤100∧x.Stores.length≤100∧x.Mints.length≤100
   ·have e3:(decide (100<(x.Grants.length:Int))||decide (100<(x.Stores.length:Int))||decide (100<(x.Mints.length:Int)))=false:=by
     simp only [xC,zK];omega
    have i1:a0l (x.Credentials - 1)=true:=a00 (by omega) (by omega)
    have i2:a0l (x.Resources - 1)=true:=a00 (by omega) (by omega)
    have g1:=a4q (body:=f3g x) false (fun g=>¬gOK x g) x.Grants 0 fun k g _=>by
     simp only [f3g,a8v,xY,o9 i1,o9 i2]
     unfold gOK
     by_cases c1:0≤g.Credential∧g.Credential≤x.Credentials - 1<;>by_cases c2:0≤g.Resource∧g.Resource≤x.Resources - 1<;>by_cases c3:1≤g.Right∧g.Right≤3<;>simp only [c1,c2,c3,decide_true,decide_false,w5,wW,vP,vN,xY,and_self,and_true,true_and,and_false,false_and,not_true_eq_false,not_false_eq_true,if_true,if_false]
    have g2:=a4q (body:=f3c x) false (fun s=>¬sOK x s) x.Stores 0 fun k g _=>by
     simp only [f3c,a8v,xY,o9 i1,o9 i2]
     unfold sOK
     by_cases c1:0≤g.Credential∧g.Credential≤x.Credentials - 1<;>by_cases c2:0≤g.Resource∧g.Resource≤x.Resources - 1<;>simp only [c1,c2,decide_true,decide_false,w5,wW,vP,vN,xY,and_self,and_true,true_and,and_false,false_and,not_true_eq_false,not_false_eq_true,if_true,if_false]
    have g3:=a4q (body:=f2t x) false (fun s=>¬mOK x s) x.Mints 0 fun k g _=>by
     simp only [f2t,a8v,xY,o9 i1]
     unfold mOK
     by_cases c1:0≤g.From∧g.From≤x.Credentials - 1<;>by_cases c2:0≤g.To∧g.To≤x.Credentials - 1<;>simp only [c1,c2,decide_true,decide_false,w5,wW,vP,vN,xY,and_self,and_true,true_and,and_false,false_and,not_true_eq_false,not_false_eq_true,if_true,if_false]
    simp only [h1,h2,decide_true,w5,w6,vN,e3,jn,xY,and_self,a2e]
    rw [g1,g2,g3]
    by_cases q1:∃g∈x.Grants,¬gOK x g
    ·have:¬a1d x:=fun h=>by obtain ⟨g,hg,hn⟩:=q1;exact hn (h.gr g hg)
     simp only [if_pos q1,xY,a1o,wH this]
    ·by_cases q2:∃g∈x.Stores,¬sOK x g
     ·have:¬a1d x:=fun h=>by obtain ⟨g,hg,hn⟩:=q2;exact hn (h.st g hg)
      simp only [if_neg q1,if_pos q2,xY,a1o,a2e,wH this]
     ·by_cases q3:∃g∈x.Mints,¬mOK x g
      ·have:¬a1d x:=fun h=>by obtain ⟨g,hg,hn⟩:=q3;exact hn (h.mi g hg)
       simp only [if_neg q1,if_neg q2,if_pos q3,xY,a1o,a2e,wH this]
      ·have:a1d x:=⟨h1.1,h1.2,h2.1,h2.2,h3.1,h3.2.1,h3.2.2,fun g hg=>Classical.byContradiction fun hn=>q1 ⟨g,hg,hn⟩,fun g hg=>Classical.byContradiction fun hn=>q2 ⟨g,hg,hn⟩,fun g hg=>Classical.byContradiction fun hn=>q3 ⟨g,hg,hn⟩⟩
       simp only [if_neg q1,if_neg q2,if_neg q3,xY,a2e,wU this]
   ·have e3:(decide (100<(x.Grants.length:Int))||decide (100<(x.Stores.length:Int))||decide (100<(x.Mints.length:Int)))=true:=by
     simp only [wS,xN];omega
    have:¬a1d x:=fun h=>h3 ⟨h.gl,h.sl,h.ml⟩
    simp only [h1,h2,decide_true,w5,w6,vN,e3,vP,wH this,and_self,jn,xY,a1o]
  ·have:¬a1d x:=fun h=>h2 ⟨h.r0,h.r1⟩
   simp only [h1,h2,decide_true,decide_false,w5,wW,Bool.true_or,vN,vP,wH this,and_self,jn,xY,a1o]
 ·have:¬a1d x:=fun h=>h1 ⟨h.c0,h.c1⟩
  simp only [h1,decide_false,wW,Bool.true_or,vP,wH this,jn,xY,a1o]
theorem c4o {x:l6} (g:a1d x) {c:Int} (hc:0≤c∧c≤x.Credentials - 1):Ok (f0e x c) fun r=>r.Pairwise (fun a b=>a<b)∧∀k,k∈r↔Rch x c k:=by
 classical
 have h0:=g.c0;have h1:=g.c1
 have i1:a0l (x.Credentials - 1)=true:=a00 (by omega) (by omega)
 simp only [f0e,b0x,wU g,xY,w5,vN,o9 i1,a8v,wU hc]
 have hL:b68 x c=some ((List.range x.Credentials.toNat).map (Go.Proofs.oul (fun a b=>decide (leads x a b)) x.Credentials.toNat (fun i=>decide (i=c.toNat)) x.Credentials.toNat)):=by
  unfold b68
  have e:∀a b:Nat,F_2 x a b=some (decide (leads x a b)):=fun a b=>c4t x a b
  simp only [e,Option.isSome_some,xX]
  rw [o9]
  simp only [wF,xN]
  exact ⟨⟨⟨u6.2 (by omega),h1⟩,by omega⟩,by simp⟩
 rw [hL]
 simp only [xY]
 generalize hf:Go.Proofs.oul (fun a b=>decide (leads x a b)) x.Credentials.toNat (fun i=>decide (i=c.toNat)) x.Credentials.toNat=f
 have hR:∀i:Nat,(i<x.Credentials.toNat∧f i=true)↔Rch x c i:=by
  intro i
  constructor
  ·rintro ⟨_,h⟩
   rw [←hf] at h
   refine b3w (L:=fun a b=>decide (leads x a b)) (n:=x.Credentials.toNat) (P:=fun i=>Rch x c i) (fun a b _ _ ha hl=>.step ha (of_decide_eq_true hl)) (fun j hj=>?_) _ i h
   have:j=c.toNat:=of_decide_eq_true hj
   have:(j:Int)=c:=by omega
   rw [this];exact .refl
  ·intro h
   have key:∀k,Rch x c k→f k.toNat=true:=by
    intro k hk
    induction hk with
    | refl=>rw [←hf];exact b6b (by simp) _
    | @step a b hra hl ih =>
     have ra:=a5f g hc hra
     have rb:=b1t g hl
     have:=b8n (L:=fun a b:Nat=>decide (leads x a b)) (n:=x.Credentials.toNat) (c:=c.toNat) (by omega)
     rw [hf] at this
     refine this a.toNat b.toNat (by omega) (by omega) ih (wU ?_)
     rw [show ((a.toNat:Nat):Int)=a by omega,show ((b.toNat:Nat):Int)=b by omega]
     exact hl
   have:=a5f g hc h
   refine ⟨by omega,?_⟩
   simpa using key _ h
 refine Ok.bind (Ok.foldI (all:=(List.range x.Credentials.toNat).map f) (Q:=fun r:List Int=>r.Pairwise (fun a b=>a<b)∧∀k,k∈r↔Rch x c k) (fun pre s=>s.length≤pre.length∧s.Pairwise (fun a b=>a<b)∧∀k,k∈s↔∃i:Nat,i<pre.length∧k=i∧f i=true) _ [] 0 _ rfl rfl ⟨vK _,by simp,fun k=>⟨fun h=>by simp at h,fun ⟨i,hi,_⟩=>by simp at hi⟩⟩ (fun pre y r s hw hs=>?_) fun s hs=>?_) fun r hr=>Ok.ret hr
 ·obtain ⟨s1,s2,s3⟩:=hs
  have hlen:pre.length<x.Credentials.toNat:=by have:=congrArg List.length hw;simp at this;omega
  have hy:y=f pre.length:=by
   have:=congrArg (fun l=>l[pre.length]?) hw
   simpa [hlen] using this.symm
  unfold g0h
  refine Ok.ite (fun cy=>Ok.chk (a0c (by simp;omega)) (Ok.ret ⟨by simp;omega,?_,fun k=>?_⟩)) fun cy=>Ok.ret ⟨by simp;omega,s2,fun k=>?_⟩
  ·rw [List.pairwise_append]
   refine ⟨s2,by simp,fun a ha b hb=>?_⟩
   obtain ⟨i,hi,rfl,_⟩:=(s3 a).1 ha
   simp at hb;omega
  ·simp only [wM,xG,s3 k,xI,zV]
   constructor
   ·rintro (⟨i,hi,e,h⟩|rfl)
    ·exact ⟨i,by omega,e,h⟩
    ·exact ⟨pre.length,by omega,rfl,by rw [←hy];exact cy⟩
   ·rintro ⟨i,hi,rfl,h⟩
    by_cases e:i=pre.length
    ·exact .inr (by rw [e])
    ·exact .inl ⟨i,by omega,rfl,h⟩
  ·rw [s3 k]
   simp only [xI,zV]
   constructor
   ·rintro ⟨i,hi,e,h⟩;exact ⟨i,by omega,e,h⟩
   ·rintro ⟨i,hi,rfl,h⟩
    refine ⟨i,?_,rfl,h⟩
    by_cases e:i=pre.length
    ·rw [e,←hy,cy] at h;cases h
    ·omega
 ·obtain ⟨s1,s2,s3⟩:=hs
  refine ⟨s2,fun k=>?_⟩
  rw [s3 k]
  simp only [wO,List.length_range]
  constructor
  ·rintro ⟨i,hi,rfl,h⟩;exact (hR i).1 ⟨hi,h⟩
  ·intro h
   have:=a5f g hc h
   obtain ⟨h1,h2⟩:=(hR k.toNat).2 (by rw [show ((k.toNat:Nat):Int)=k by omega];exact h)
   exact ⟨k.toNat,h1,by omega,h2⟩
end Go.Ab
namespace Go.Ab
open Go.Proofs
theorem c9h (l:List Int) (x:Int):d3k l x=some (decide (x∈l)):=by
 classical
 unfold d3k
 rw [a4q true (fun a=>a=x) l 0 fun k a _=>by
  simp only [f2e]
  by_cases c:a=x<;>simp [c]]
 by_cases c:x∈l
 ·have:∃a∈l,a=x:=⟨x,c,rfl⟩
  simp only [if_pos this,xY,a1o,wU c]
 ·have:¬∃a∈l,a=x:=fun ⟨a,h,e⟩=>c (e▸h)
  simp only [if_neg this,xY,a2e,wH c]
theorem c5a {x:l6} (g:a1d x) (r:List Int):Ok (e89 x r) fun b=>(b.length:Int)=x.Resources∧∀i:Nat,i<b.length→b.getD i default=mx (·∈r) i x.Grants:=by
 classical
 have h0:=g.r0;have h1:=g.r1
 unfold e89
 refine Ok.chk (a2a.2 ⟨h0,vM _,by omega⟩) (Ok.bind (Ok.foldI (all:=x.Grants) (Q:=fun b:List Int=>(b.length:Int)=x.Resources∧∀i:Nat,i<b.length→b.getD i default=mx (·∈r) i x.Grants)
  (fun pre b=>(b.length:Int)=x.Resources∧∀i:Nat,i<b.length→b.getD i default=mx (·∈r) i pre) x.Grants [] 0 _ rfl rfl ⟨by simp;omega,fun i hi=>?_⟩ (fun pre y q s hw hs=>?_) fun s hs=>hs) fun b hb=>Ok.ret hb)
 ·simp only [List.length_replicate] at hi
  simp [mx,hi]
 ·obtain ⟨s1,s2⟩:=hs
  have hy:=g.gr y (by rw [hw];simp)
  unfold f7o
  rw [c9h]
  refine Ok.bind (P:=fun b=>b=decide (y.Credential∈r)) ⟨_,rfl,rfl⟩ fun b hb=>?_
  subst hb
  refine Ok.ite (fun c=>?_) fun c=>Ok.ret ⟨s1,fun i hi=>?_⟩
  ·have c:y.Credential∈r:=of_decide_eq_true c
   have hb:=hy.2.1
   have i0:inb y.Resource s.length=true:=u6.2 ⟨hb.1,by omega⟩
   refine Ok.chk i0 (Ok.chk i0 (Ok.ret ⟨by simpa using s1,fun i hi=>?_⟩))
   simp only [List.length_set] at hi
   rw [b5b,zE,xQ]
   by_cases e:y.Resource.toNat=i
   ·have e2:y.Resource=(i:Int):=by omega
    rw [if_pos e,if_pos (by omega),xX,if_pos ⟨c,e2⟩,e,s2 i hi]
   ·have e2:¬y.Resource=(i:Int):=by omega
    rw [if_neg e,if_neg (fun h=>e2 h.2),←zE,s2 i hi]
  ·have c:¬y.Credential∈r:=of_decide_eq_false c
   rw [b5b,if_neg (fun h=>c h.1)]
   exact s2 i hi
theorem c4p {x:l6} (g:a1d x) {c:Int} (hc:0≤c∧c≤x.Credentials - 1):Ok (d9c x c) fun p=>(p.length:Int)=x.Resources∧∀i:Nat,i<p.length→p.getD i default=mx (Rch x c) i x.Grants:=by
 classical
 have h0:=g.c0;have h1:=g.c1
 have i1:a0l (x.Credentials - 1)=true:=a00 (by omega) (by omega)
 unfold d9c
 simp only [b0x,wU g,xY,w5,vN,o9 i1,a8v,wU hc]
 refine Ok.bind (c4o g hc) fun r hr=>Ok.bind (c5a g r) fun b hb=>Ok.ret ⟨hb.1,fun i hi=>?_⟩
 rw [hb.2 i hi]
 exact c0g hr.2 i x.Grants
theorem c2h {x:l6} (g:a1d x) {c:Int} (hc:0≤c∧c≤x.Credentials - 1):d9c x c=d9l x c:=by
 obtain ⟨p,e1,h1,h2⟩:=c4p g hc
 obtain ⟨q,e2,k1,k2⟩:=c05 g hc
 rw [e1,e2]
 congr 1
 refine List.ext_getElem (by omega) fun i hi hj=>?_
 have a:=h2 i hi
 have b:=k2 i hj
 rw [zE,zJ hi,xX] at a
 rw [zE,zJ hj,xX] at b
 rw [a,b]
open Classical in
theorem c8k (w:List Int):e8l w=some (decide (∃a∈w,¬(0≤a∧a≤100))):=by
 refine a1v (fun a=>¬(0≤a∧a≤100)) w fun k a=>?_
 simp only [f2k,e8m,grp,xY]
 by_cases q:0≤a∧a≤100
 ·have:(decide (a<0)||decide (100<a))=false:=by simp only [xC,zK];omega
  simp [this,q]
 ·have:(decide (a<0)||decide (100<a))=true:=by simp only [wS,xN];omega
  simp only [this,vP,q,not_false_eq_true,if_true]
open Classical in
theorem c1x (x:l6) (w:List Int):e97 x w=some (decide ((w.length:Int)=x.Resources)&&!decide (∃a∈w,¬(0≤a∧a≤100))):=by
 unfold e97
 by_cases hl:(w.length:Int)=x.Resources
 ·simp only [wU hl,w5,vN,Bool.true_and]
  rw [a4q false (fun a:Int=>¬(0≤a∧a≤100)) w 0 fun k a _=>by
   simp only [f7p,grp]
   by_cases q:0≤a∧a≤100
   ·have:(decide (a<0)||decide (100<a))=false:=by simp only [xC,zK];omega
    simp [this,q]
   ·have:(decide (a<0)||decide (100<a))=true:=by simp only [wS,xN];omega
    simp only [this,vP,q,not_false_eq_true,if_true]]
  by_cases c:∃a∈w,¬(0≤a∧a≤100)
  ·simp only [if_pos c,xY,a1o,wU c,w5]
  ·simp only [if_neg c,xY,a2e,wH c,wW]
 ·simp only [wH hl,wW,vP,Bool.false_and]
theorem c4j (x:l6) (w:List Int) (c:Int):e96 x w c=d8t x w c:=by
 classical
 simp only [e96,d8t,b0x,a5e,xY,c1x,c8k,grp]
 by_cases g:a1d x
 ·simp only [wU g,if_pos g,w5,vN,decide_true]
  by_cases hl:(w.length:Int)=x.Resources
  ·simp only [wU hl,Bool.true_and,Bool.not_not,w5,vN]
   by_cases q:∃a∈w,¬(0≤a∧a≤100)
   ·simp only [wU q,vP]
   ·simp only [wH q,vN]
    by_cases hc:0≤c∧c≤x.Credentials - 1
    ·rw [c2h g hc]
     rfl
    ·have:(decide (c<0)||decide (x.Credentials≤c))=true:=by simp only [wS,xN];omega
     simp only [this,vP]
  ·simp only [wH hl,Bool.false_and,wW,vP]
 ·have:¬((32:Int)=0):=by omega
  simp only [wH g,if_neg g,wH this,wW,vP]
theorem c97 (x:l6) (w:List Int) (c n:Int) (p:Bool):e95 x w c n p=d8s x w c n p:=by
 simp only [e95,d8s,c4j]
 rfl
end Go.Ab
set_option maxRecDepth 20000
namespace Go.Ab
open Go.Proofs
theorem c52 {f:x8} {s:l7} (h:a8r f s):e9k f s=some (decide (s.Valid=2)&&s.Units.all b5u):=by
 unfold e9k
 rw [b4w h,xY]
 simp only [grp,w5,w6]
 cases hv:decide (s.Valid=2) with
 | false=>rfl
 | true =>
  simp only [w5,vN]
  have hb:∀(k:Int) (u:a0r),f2j k u ()=some (bif b5u u then .nx () else .ex false):=fun k u=>by
   simp only [f2j,grp,b5u]
   cases u.Up<;>cases decide (u.Stored=2)<;>cases decide (u.Used=2)<;>rfl
  rw [a0t (fun u=>if b5u u=true then none else some false) s.Units 0 fun k u _=>by
   rw [hb]
   cases b5u u<;>rfl]
  rw [xY,a1m (p:=fun u=>b5u u=true) fun u _=>rfl]
  by_cases c:∀x∈s.Units,b5u x=true
  ·rw [if_pos c]
   have:s.Units.all b5u=true:=wE.2 c
   rw [this];rfl
  ·rw [if_neg c]
   have:s.Units.all b5u=false:=by
    rw [Bool.eq_false_iff];exact fun e=>c (wE.1 e)
   rw [this];rfl
theorem b8l {c:l9} (h:b4m c) {k:Nat} (hk:k<c.Replicas.length):e9j c k 1=some (c3r c 1 (c.Replicas.getD k default)):=by
 have hv:=b4u h
 obtain ⟨h1,h2,h3,h4,h5,h6⟩:=h
 refine Ok.eq ?_
 unfold e9j
 rw [hv]
 simp only [xY,w5,vN,b1b]
 refine Ok.jn (P:=fun o=>o=.nx ()) (Ok.chk (a00 (by omega) (by omega)) (Ok.grp (Ok.ite (fun q=>?_) fun _=>Ok.ret rfl))) fun o ho=>?_
 ·have e1:decide ((0:Int)≤(k:Int))=true:=wU (by omega)
  have e2:decide ((k:Int)≤(c.Replicas.length:Int) - 1)=true:=wU (by omega)
  rw [e1,e2] at q
  simp at q
 subst ho
 rw [a2e]
 refine Ok.chk (u6.2 ⟨by omega,by omega⟩) ?_
 rw [xV]
 have hg:=h5 (c.Replicas.getD k default) (b0n hk)
 unfold c3r hasB
 cases (c.Replicas.getD k default).Serving with
 | false=>exact Ok.ret rfl
 | true =>
  exact Ok.jn (P:=fun j=>j=!decide (bits .and .i64 (c.Sets.getD (c.Replicas.getD k default).Generation.toNat default) 1=0)) (Ok.chk (u6.2 ⟨hg.1,by omega⟩) (Ok.ret rfl)) fun j hj=>Ok.ret (by rw [hj];rfl)
theorem c9k {c:l9} (h:b4m c):e9i c 1=some (c77 c 1):=by
 have hv:=b4u h
 have h2:=h.2.1
 refine Ok.eq ?_
 unfold e9i
 rw [hv,xY]
 refine Ok.grp (Ok.ite (fun q=>by simp at q) fun _=>Ok.chk (a00 (by omega) (by omega)) (Ok.chk (u6.2 ⟨by omega,by omega⟩) ?_))
 have e:(!decide (bits .and .i64 (c.Sets.getD ((c.Sets.length:Int) - 1).toNat default) 1=0))=hasB c ((c.Sets.length:Int) - 1) 1:=rfl
 rw [e]
 unfold c77
 cases hasB c ((c.Sets.length:Int) - 1) 1 with
 | true=>exact Ok.ret rfl
 | false =>
  simp only [vN,wW,Bool.true_and]
  refine Ok.bind (P:=fun o=>o=(if c.Replicas.any (c3r c 1)=true then (.ex false:Fl Unit Bool) else .nx ())) (Ok.forI (all:=c.Replicas) (fun pre _=>pre.any (c3r c 1)=false) c.Replicas [] 0 () rfl rfl rfl (fun pre x r s hw hs=>?_) fun s hs=>by rw [hs];rfl) fun o ho=>?_
  ·have hp:pre.length<c.Replicas.length:=by rw [hw];simp
   have hx:c.Replicas.getD pre.length default=x:=by rw [hw];simp [zE]
   unfold f8c
   rw [b8l h hp,hx,xY]
   cases ha:c3r c 1 x with
   | true =>
    refine Ok.ret ?_
    have:c.Replicas.any (c3r c 1)=true:=by rw [hw];simp [ha]
    show Fl.ex false=_
    rw [this];rfl
   | false =>
    refine Ok.ret ?_
    show (pre++[x]).any (c3r c 1)=false
    rw [List.any_append,hs];simp [ha]
  ·subst ho
   cases c.Replicas.any (c3r c 1)<;>exact Ok.ret rfl
theorem d4x {r:o5} (h:a7a r) (fp:Int):e98 r fp=some (finds r fp):=by
 unfold e98
 rw [b0z r fun i hi=>by have:=(h.2.2.1 i hi).1.2.1;omega,wU h,xY]
 simp only [w5,vN]
 rw [show (0:Int)=((0:Nat):Int) from rfl,a3f (fun c:o7=>decide (c.Fingerprint=fp)) 24 (by omega) r.Credentials 0 [] (by have:=h.2.1;simpa using this) fun k a x ha hx=>?_]
 ·rfl
 ·unfold f7q
  cases decide (a.Fingerprint=fp) with
  | false=>rfl
  | true=>simp only [vP];rw [o9 (a0c (by simp;omega))]
theorem d1k (d:d9) (a:l5) (c:Int):((a9x d a c).length:Int)=(c58 (a9x d a c)).length+(if (a9x d a c).any (fun x=>decide (x.Principal=-1))=true then 1 else 0):=by
 have tl:∀x∈b0q d a c d.Kinds.length 0,¬x.Principal=-1:=fun x hx=>by have:=(b5c.1 hx).1.1;omega
 have f1:c58 (b0q d a c d.Kinds.length 0)=b0q d a c d.Kinds.length 0:=by
  unfold c58
  rw [List.filter_eq_self]
  intro x hx
  simpa using tl x hx
 have f2:(b0q d a c d.Kinds.length 0).any (fun x=>decide (x.Principal=-1))=false:=by
  rw [List.any_eq_false]
  intro x hx
  simpa using tl x hx
 have e:a9x d a c=(match sin d a c (-1) with|some t=>[⟨-1,t⟩]|none=>[])++b0q d a c d.Kinds.length 0:=rfl
 rw [e]
 cases sin d a c (-1) with
 | none =>
  simp only [wK]
  rw [f1]
  simp only [f2,xM,if_false,Int.add_zero]
 | some t =>
  have g1:c58 ([z8.mk (-1) t]++b0q d a c d.Kinds.length 0)=b0q d a c d.Kinds.length 0:=by
   unfold c58 at f1 ⊢
   rw [List.filter_append,f1];rfl
  simp only
  rw [g1]
  simp
theorem d3w (l:List Int):f3f l=some true:=by
 refine Ok.eq ?_
 unfold f3f
 refine Ok.ite (fun _=>Ok.bind (P:=fun y=>y=true) (Ok.of c7u rfl) fun y hy=>Ok.ret hy) fun c=>?_
 have c:¬600<(l.length:Int):=by simpa using c
 refine Ok.bind (d6n (t:=⟨l,0⟩) ⟨vM 0,by show l.length≤1000;omega⟩) fun z hz=>?_
 have hs:=hz.1
 have hsA:=d46 hs
 refine Ok.bind (c7r hsA rfl) fun m hm=>?_
 obtain ⟨m0,t⟩:=hm
 have rr:=e1h hsA t
 have tpu:=t.pu
 have trd:=t.rd
 have tsi:=t.si
 have tsv:=t.sv
 have hexp:=b73 hs.d hs.a (c:=z.1.c_)
 refine Ok.ite (fun q=>by simp [m0] at q) fun _=>Ok.ite (fun q=>by have:=t.fp;simp only at this;simp [this] at q) fun _=>Ok.ite (fun q=>by have:=t.sp;simp only at this;simp [this] at q) fun _=>?_
 refine Ok.bind (Ok.of (c52 hs.s) rfl) fun y15 h15=>Ok.ite (fun q=>by have:=t.ro;simp only at this;subst h15;rw [this] at q;simp at q) fun _=>?_
 refine Ok.bind (Ok.of (c9k hs.g) rfl) fun y16 h16=>Ok.ite (fun q=>by have:=t.de;simp only at this;subst h16;rw [this] at q;simp at q) fun _=>?_
 refine Ok.bind (Ok.of (c5e hs.d hs.a hs.c0 hs.c1) rfl) fun y18 h18=>?_
 subst h18
 refine Ok.jn (P:=fun j=>j=((a9x z.1.d_ z.1.a_ z.1.c_).length:Int)) ?_ fun j19 h19=>?_
 ·have hc:=d1k z.1.d_ z.1.a_ z.1.c_
  simp only at tpu trd
  refine Ok.ite (fun q=>Ok.chk (a00 (by omega) (by omega)) (Ok.ret ?_)) fun q=>Ok.ret ?_
  ·rw [tpu] at q;rw [if_pos q] at hc;omega
  ·rw [tpu] at q;rw [if_neg (by rw [q];simp)] at hc;omega
 subst h19
 refine Ok.bind (c5d hs.d hs.a hs.c0 hs.c1) fun y21 h21=>?_
 simp only at tsi
 have hfin:y21.2=decide (0≤m.1.Since)∧(y21.2=true→m.1.Since=y21.1)∧(y21.2=false→m.1.Since=-1):=by
  rcases h21 with ⟨e1,e2⟩|⟨e1,⟨x,hx,e2⟩,e3⟩
  ·rcases tsi with ⟨_,e⟩|⟨⟨x,hx,_⟩,_⟩
   ·rw [e2,e];simp
   ·rw [e1] at hx;cases hx
  ·rcases tsi with ⟨e,_⟩|⟨⟨x',hx',e4⟩,e5⟩
   ·rw [e] at hx;cases hx
   ·have a1:=e3 x' hx'
    have a2:=e5 x hx
    have a3:=(hexp x' hx').1
    have e6:m.1.Since=y21.1:=by omega
    rw [e1]
    exact ⟨(wU (by omega)).symm,fun _=>e6,fun h=>by cases h⟩
 obtain ⟨g1,g2,g3⟩:=hfin
 refine Ok.grp (Ok.grp (Ok.grp (Ok.ite (fun q=>?_) fun _=>?_)))
 ·exfalso
  simp only [decide_true,w5,w6,g1,beq_self_eq_true] at q
  cases hd:decide (0≤m.1.Since) with
  | true=>rw [hd] at q g1;simp [g2 g1] at q
  | false=>rw [hd] at q g1;simp [g3 g1] at q
 refine Ok.bind (Ok.of (d4x hs.r z.1.f_.Fingerprint) rfl) fun L hL=>?_
 subst hL
 refine Ok.bind (P:=fun o:Fl Unit Bool=>o=.nx ()) (Ok.for (fun _=>True) _ 0 () trivial (fun k x s hx _=>?_) fun s _=>rfl) fun o ho=>?_
 ·have hm:=b1n hs.r hx
  unfold f9w
  have hrate:=c5b hsA.x hsA.w hsA.wl (c:=x) (by show 0≤x∧x≤24 - 1;omega) rr m.1.Public
  rw [c97]
  refine Ok.bind (Ok.of hrate rfl) fun y hy=>?_
  subst hy
  refine Ok.grp (Ok.grp (Ok.ite (fun q=>?_) fun _=>Ok.ret trivial))
  exfalso
  simp only at tsv
  rcases tsv with ⟨e,_⟩|⟨⟨k',hk',e1⟩,e2⟩
  ·rw [e] at hx;cases hx
  ·have h3:=e2 x hx
   have h4:(sev (l6.mk 24 z.1.x_.Resources z.1.x_.Grants z.1.x_.Stores z.1.x_.Mints) z.1.w_ m.1.Readers m.1.Public x).Level≤m.1.Severity.Level:=by
    rw [e1] at h3 ⊢
    rw [c4h,c4h]
    exact d0p h3
   simp only [sev] at h3 h4
   simp only [decide_true,w5,w6,wS,xN] at q
   omega
 ·subst ho
  rw [a2e]
  exact Ok.bind (P:=fun y=>y=true) (Ok.of c7u rfl) fun y hy=>Ok.ret hy
theorem d7r {l:List Int}:a0j Tryz.prog 5 [.sl (l.map (V.int .i64))] [] (fun r H=>r=.bool true∧H=[]):=f7b.c.w (d3w l)
end Go.Ab
