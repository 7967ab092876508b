/- Which directories, registries and clusters are valid, for any ones: the program and the references say the same. -/
import Derived.Test.YtbmjlaknnpmgpaaGreatDoorPT
import Derived.Test.YtbmjlaknnpmgpaaGreatDoorLI
set_option linter.all false
set_option maxRecDepth 20000
namespace Go.Ab
open Go.Proofs
theorem e3q (x a b:Int):F_p x a b=some (decide (a≤x∧x≤b)):=by simp [F_p,grp]
theorem c5z {d:d9} (hk:d.Kinds.length≤24) (p:Int):c9f d p=some (decide (0≤p∧p<d.Kinds.length∧d.Kinds.getD p.toNat default=2)):=by
 unfold c9f
 rw [a4h hk]
 by_cases c:0≤p∧p<(d.Kinds.length:Int)
 ·simp only [wV c,xZ,vQ,jn,o8 (q9.2 c)]
  congr 1
  simp [c.1,c.2]
 ·have:¬(0≤p∧p<(d.Kinds.length:Int)∧d.Kinds.getD p.toNat default=2):=fun h=>c ⟨h.1,h.2.1⟩
  simp only [wI c,wI this,xZ,vO,jn]
open Classical in
theorem g06 {d:d9} (hk:d.Kinds.length≤24) (x:a0f):((F_h d x.Principal).bind fun y251=>bif (!y251) then some (.ex false) else (c9f d x.Group).bind fun y252=>bif (!y252) then some (.ex false) else bif decide (x.Principal=x.Group) then some (.ex false) else some (.nx ()):Option (Fl Unit Bool)) =
  some (if (0≤x.Principal∧x.Principal<d.Kinds.length)∧(0≤x.Group∧x.Group<d.Kinds.length∧d.Kinds.getD x.Group.toNat default=2)∧x.Principal≠x.Group then .nx () else .ex false):=by
 rw [a4h hk,c5z hk]
 by_cases a:0≤x.Principal∧x.Principal<(d.Kinds.length:Int)
 ·by_cases b:0≤x.Group∧x.Group<(d.Kinds.length:Int)∧d.Kinds.getD x.Group.toNat default=2
  ·by_cases e:x.Principal=x.Group
   ·rw [wV a,wV b,wV e,if_neg (fun h=>h.2.2 e)];rfl
   ·rw [wV a,wV b,wI e,if_pos ⟨a,b,e⟩];rfl
  ·rw [wV a,wI b,if_neg (fun h=>b h.2.1)];rfl
 ·rw [wI a,if_neg (fun h=>a h.1)];rfl
open Classical in
theorem c7x {d:d9} (hk:d.Kinds.length≤24) (he:d.Events.length≤120):∀(l:List a0f) (k:Nat) (last:Int),d.Events.drop k=l→(0<k→(d.Events.getD (k - 1) default).Time=last)→(k=0→last=0)→k≤d.Events.length →
  a10 (f2h d) l (k:Int) ()=some (if a5k d last l then .nx () else .ex false)
 | [],k,last,hd,hl,h0,_=>by simp [a10,a5k]
 | x :: r,k,last,hd,hl,h0,hkk=>by
  have hlt:k<d.Events.length:=by
   rcases Nat.lt_or_ge k d.Events.length with h|h
   ·exact h
   ·rw [List.drop_eq_nil_of_le h] at hd;cases hd
  rw [List.drop_eq_getElem_cons hlt] at hd
  obtain ⟨e1,e2⟩:=List.cons.inj hd
  have hx:(d.Events.getD (k+1 - 1) default)=x:=by rw [Nat.add_sub_cancel,zE,zJ hlt];exact e1
  have ih:=c7x hk he r (k+1) x.Time e2 (fun _=>by rw [hx]) (by omega) hlt
  rw [show ((k+1:Nat):Int)=(k:Int)+1 by simp] at ih
  simp only [a10,f2h,e3q,xZ,a5k,g06 hk]
  by_cases c1:1≤x.Kind∧x.Kind≤2
  ·by_cases c2:0≤x.Time∧x.Time≤1099511627776
   ·simp only [wV c1,wV c2,w6,vO]
    by_cases c3:(0≤x.Principal∧x.Principal<(d.Kinds.length:Int))∧(0≤x.Group∧x.Group<(d.Kinds.length:Int)∧d.Kinds.getD x.Group.toNat default=2)∧x.Principal≠x.Group
    ·have hm:mok d x:=⟨by omega,c2.1,c2.2,c3⟩
     simp only [if_pos c3]
     by_cases ck:0<k
     ·have e3:decide (0<(k:Int))=true:=wV (by omega)
      have e6:((k:Int) - 1).toNat=k - 1:=by omega
      simp only [e3,vQ,o8 (u6 (n:=(k:Int) - 1) (by omega) (by omega)),o8 (q9.2 ⟨by omega,by omega⟩:inb ((k:Int) - 1) d.Events.length=true),e6,hl ck]
      by_cases c4:x.Time<last
      ·have:¬last≤x.Time:=by omega
       simp [c4,this,a1p]
      ·have:last≤x.Time:=by omega
       simp [c4,this,a1t,ih,hm]
     ·have e3:decide (0<(k:Int))=false:=wI (by omega)
      have:last≤x.Time:=by rw [h0 (by omega)];exact c2.1
      simp only [e3,vO,xZ,a1t,this,true_and,ih,hm]
    ·have hm:¬mok d x:=fun h=>c3 h.2.2.2
     simp only [if_neg c3,hm,and_false,false_and,if_false]
     by_cases ck:0<k
     ·have e3:decide (0<(k:Int))=true:=wV (by omega)
      simp only [e3,vQ,o8 (u6 (n:=(k:Int) - 1) (by omega) (by omega)),o8 (q9.2 ⟨by omega,by omega⟩:inb ((k:Int) - 1) d.Events.length=true)]
      cases decide (x.Time<(d.Events.getD ((k:Int) - 1).toNat default).Time)<;>rfl
     ·have e3:decide (0<(k:Int))=false:=wI (by omega)
      simp only [e3,vO];rfl
   ·have hm:¬mok d x:=fun h=>c2 ⟨h.2.1,h.2.2.1⟩
    simp only [wV c1,wI c2,w6,wY,vO,vQ,hm,and_false,false_and,if_false];rfl
  ·have hm:¬mok d x:=fun h=>c1 (by have:=h.1;omega)
   simp only [wI c1,wY,vQ,hm,and_false,false_and,if_false];rfl
open Classical in
theorem b3b (d:d9):F_c d=some (decide (a1g d)):=by
 simp only [F_c,grp]
 by_cases c:d.Kinds.length≤24∧d.Events.length≤120
 ·have c':(decide (24<(d.Kinds.length:Int))||decide (120<(d.Events.length:Int)))=false:=by simp;omega
  have hkd:a10 f3f d.Kinds 0 ()=some (flO (a3g (fun k=>if 1≤k∧k≤3 then none else some false) d.Kinds)):=a0k _ _ _ fun k x _=>by
   simp only [f3f,e3q,xZ]
   by_cases q:1≤x∧x≤3
   ·simp [q,flO]
   ·simp [q,flO]
  have h:=c7x c.1 c.2 d.Events 0 0 rfl (fun h=>by omega) (fun _=>rfl) (by omega)
  simp only [show ((0:Nat):Int)=0 from rfl] at h
  simp only [c',vO,hkd,xZ,h,a1b (p:=fun k:Int=>1≤k∧k≤3) (f:=fun k=>if 1≤k∧k≤3 then none else some false) fun _ _=>rfl]
  by_cases q:∀x∈d.Kinds,1≤x∧x≤3
  ·rw [if_pos q]
   simp only [flO,a1t]
   by_cases hc:a5k d 0 d.Events
   ·have:a1g d:=(a8q d).2 ⟨c.1,c.2,q,hc⟩
    simp [this,hc,a1t]
   ·have:¬a1g d:=fun h=>hc ((a8q d).1 h).2.2.2
    simp [this,hc,a1p]
  ·have:¬a1g d:=fun h=>q h.kd
   rw [if_neg q]
   simp [flO,a1p,this]
 ·have c':(decide (24<(d.Kinds.length:Int))||decide (120<(d.Events.length:Int)))=true:=by simp;omega
  have:¬a1g d:=fun h=>c ⟨h.kl,h.el⟩
  simp [c',this]
open Classical in
theorem d9z (d:d9) (a:l5) (c:Int):∃l:List a00,∃e:Int,F_a d a c=some (l,e)∧F_7 d a c=some (l,e)∧(e=0→a1g d∧Good a∧0≤c∧c≤63∧l=b1b d a c):=by
 by_cases g:a1g d
 ·by_cases h:Good a
  ·by_cases q:0≤c∧c≤63
   ·exact ⟨b1b d a c,0,f4l g h q.1 q.2,d6e g h q.1 q.2,fun _=>⟨g,h,q.1,q.2,rfl⟩⟩
   ·have e1:(decide (c<0)||decide (63<c))=true:=by simp;omega
    refine ⟨[],2,?_,?_,by simp⟩
    ·simp [F_a,d4t,d3k,a4s,a4a,g,h,F_u,a5i,q]
    ·simp only [F_7,b3b,valid_eq,wV g,wV h,xZ,w6,vO,grp,e1,vQ]
  ·refine ⟨[],34,?_,?_,by simp⟩
   ·simp [F_a,d4t,d3k,a4s,a4a,g,h]
   ·simp only [F_7,b3b,valid_eq,wV g,wI h,xZ,w6,vO,wY,vQ]
 ·refine ⟨[],30,?_,?_,by simp⟩
  ·simp [F_a,d4t,d3k,a4s,g]
  ·simp only [F_7,b3b,wI g,xZ,wY,vQ]
set_option maxRecDepth 20000
theorem e3n (k a:Int):f4d k a ()=some (flO (if 0≤a∧a≤3 then none else some false)):=by
 unfold f4d
 rw [a5m,xZ]
 by_cases h:0≤a∧a≤3
 ·rw [a2s.2 h,if_pos h];rfl
 ·rw [show (decide (0≤a)&&decide (a≤3))=false by rw [Bool.eq_false_iff];exact fun hh=>h (a2s.1 hh),if_neg h];rfl
theorem e3o {c:l9} (hs:c.Sets.length≤1000000) (k:Int) (a:p9):f3u c k a ()=some (flO (if 0≤a.Generation∧a.Generation≤(c.Sets.length:Int) - 1 then none else some false)):=by
 unfold f3u
 rw [o8 (u6 (by omega) (by omega)),a5m,xZ]
 by_cases h:0≤a.Generation∧a.Generation≤(c.Sets.length:Int) - 1
 ·rw [a2s.2 h,if_pos h];rfl
 ·rw [show (decide (0≤a.Generation)&&decide (a.Generation≤(c.Sets.length:Int) - 1))=false by rw [Bool.eq_false_iff];exact fun hh=>h (a2s.1 hh),if_neg h];rfl
theorem d68 {c:l9} (hs:c.Sets.length≤1000000) (k:Int) (a:Int):f3l c k a ()=some (flO (if 0≤a∧a≤(c.Sets.length:Int) - 1 then none else some false)):=by
 unfold f3l
 rw [o8 (u6 (by omega) (by omega)),a5m,xZ]
 by_cases h:0≤a∧a≤(c.Sets.length:Int) - 1
 ·rw [a2s.2 h,if_pos h];rfl
 ·rw [show (decide (0≤a)&&decide (a≤(c.Sets.length:Int) - 1))=false by rw [Bool.eq_false_iff];exact fun hh=>h (a2s.1 hh),if_neg h];rfl
open Classical in
theorem b94 {c:l9} (hs:c.Sets.length≤1000000):F_2 c=some (decide (a5p c)):=by
 by_cases g1:(1:Int)≤c.Replicas.length∧(c.Replicas.length:Int)≤5
 ·by_cases g2:(1:Int)≤c.Sets.length∧(c.Sets.length:Int)≤121
  ·by_cases g3:c.Snapshots.length≤120
   ·unfold F_2
    simp only [jn,grp,a5m,xZ,a2s.2 g1,a2s.2 g2,show decide ((120:Int)<c.Snapshots.length)=false from wI (by omega),w6,vO,Bool.or_false,Fl.elim]
    rw [a0k (fun a=>if 0≤a∧a≤3 then none else some false) c.Sets 0 fun k a _=>e3n k a,a1b (p:=fun a:Int=>0≤a∧a≤3) (y:=false) fun _ _=>rfl,xZ]
    by_cases g4:∀s∈c.Sets,0≤s∧s≤3
    ·rw [if_pos g4]
     simp only [flO]
     rw [a0k (fun a:p9=>if 0≤a.Generation∧a.Generation≤(c.Sets.length:Int) - 1 then none else some false) c.Replicas 0 fun k a _=>e3o hs k a,a1b (p:=fun a:p9=>0≤a.Generation∧a.Generation≤(c.Sets.length:Int) - 1) (y:=false) fun _ _=>rfl,xZ]
     by_cases g5:∀r∈c.Replicas,0≤r.Generation∧r.Generation≤(c.Sets.length:Int) - 1
     ·rw [if_pos g5]
      simp only [flO]
      rw [a0k (fun a:Int=>if 0≤a∧a≤(c.Sets.length:Int) - 1 then none else some false) c.Snapshots 0 fun k a _=>d68 hs k a,a1b (p:=fun a:Int=>0≤a∧a≤(c.Sets.length:Int) - 1) (y:=false) fun _ _=>rfl,xZ]
      by_cases g6:∀g∈c.Snapshots,0≤g∧g≤(c.Sets.length:Int) - 1
      ·rw [if_pos g6,wV (show a5p c from ⟨by omega,by omega,g3,g4,g5,g6⟩)];rfl
      ·rw [if_neg g6,wI (show ¬a5p c from fun h=>g6 h.2.2.2.2.2)];rfl
     ·rw [if_neg g5,wI (show ¬a5p c from fun h=>g5 h.2.2.2.2.1)];rfl
    ·rw [if_neg g4,wI (show ¬a5p c from fun h=>g4 h.2.2.2.1)];rfl
   ·unfold F_2
    simp only [jn,grp,a5m,xZ,a2s.2 g1,a2s.2 g2,show decide ((120:Int)<c.Snapshots.length)=true from wV (by omega),w6,vO,vQ,Bool.or_true,Fl.elim]
    rw [wI (show ¬a5p c from fun h=>g3 h.2.2.1)]
  ·unfold F_2
   have e:(decide ((1:Int)≤c.Sets.length)&&decide ((c.Sets.length:Int)≤121))=false:=by rw [Bool.eq_false_iff];exact fun hh=>g2 (a2s.1 hh)
   simp only [jn,grp,a5m,xZ,a2s.2 g1,e,w6,wY,Bool.true_or,vO,vQ,Fl.elim]
   rw [wI (show ¬a5p c from fun h=>g2 (by have:=h.2.1;omega))]
 ·unfold F_2
  have e:(decide ((1:Int)≤c.Replicas.length)&&decide ((c.Replicas.length:Int)≤5))=false:=by rw [Bool.eq_false_iff];exact fun hh=>g1 (a2s.1 hh)
  simp only [jn,grp,a5m,xZ,e,wY,vQ,Fl.elim]
  rw [wI (show ¬a5p c from fun h=>g1 (by have:=h.1;omega))]
theorem d40 {c:l9} (hs:c.Sets.length≤1000000) (g:Int):d4q g c=some (!(decide (0≤g)&&decide (g≤(c.Sets.length:Int) - 1))):=by
 unfold d4q
 rw [o8 (u6 (by omega) (by omega)),c3i];rfl
theorem a7s {α:Type} {l:List α} {p:α→Bool} {q:α→Prop} (h:∀x,p x=true↔q x):((l.any fun x=>!p x)=true)↔¬∀x∈l,q x:=by
 rw [List.any_eq_true]
 constructor
 ·rintro ⟨x,hx,e⟩ hh
  have:=(h x).2 (hh x hx)
  rw [this] at e;cases e
 ·intro hh
  apply Classical.byContradiction
  intro hn
  apply hh
  intro x hx
  cases hp:p x with
  | true=>exact (h x).1 hp
  | false=>exact absurd ⟨x,hx,by rw [hp];rfl⟩ hn
open Classical in
theorem b9g {c:l9} (hs:c.Sets.length≤1000000):d4n c=some (if a5p c then 0 else 39):=by
 by_cases g:a5p c
 ·rw [if_pos g];exact c0z g
 rw [if_neg g]
 have a1:d4r c.Sets=some (c.Sets.any fun a=>!(decide (0≤a)&&decide (a≤3))):=by
  unfold d4r f1f
  rw [a2j (fun a=>!(decide (0≤a)&&decide (a≤3))) c.Sets fun k a ha=>?_]
  unfold f6o f1g
  rw [c3i,xZ,xZ]
  cases (!(decide (0≤a)&&decide (a≤3)))<;>rfl
 have a2:d4p c.Snapshots c=some (c.Snapshots.any fun a=>!(decide (0≤a)&&decide (a≤(c.Sets.length:Int) - 1))):=by
  unfold d4p f2q
  rw [a2j (fun a=>!(decide (0≤a)&&decide (a≤(c.Sets.length:Int) - 1))) c.Snapshots fun k a ha=>?_]
  unfold f6n
  rw [d40 hs,xZ]
  cases (!(decide (0≤a)&&decide (a≤(c.Sets.length:Int) - 1)))<;>rfl
 have a3:d4o c.Replicas c=some (c.Replicas.any fun a=>!(decide (0≤a.Generation)&&decide (a.Generation≤(c.Sets.length:Int) - 1))):=by
  unfold d4o f2p
  rw [a2j (fun a:p9=>!(decide (0≤a.Generation)&&decide (a.Generation≤(c.Sets.length:Int) - 1))) c.Replicas fun k a ha=>?_]
  unfold f6m f1e
  rw [d40 hs,xZ,xZ]
  cases (!(decide (0≤a.Generation)&&decide (a.Generation≤(c.Sets.length:Int) - 1)))<;>rfl
 unfold d4n
 simp only [c3i,xZ,grp,a1,a2,a3]
 by_cases g1:(1:Int)≤c.Replicas.length∧(c.Replicas.length:Int)≤5
 ·simp only [a2s.2 g1,w6,vO]
  by_cases g2:(1:Int)≤c.Sets.length∧(c.Sets.length:Int)≤121
  ·by_cases g3:c.Snapshots.length≤120
   ·simp only [a2s.2 g2,show decide ((120:Int)<c.Snapshots.length)=false from wI (by omega),w6,Bool.or_false,vO]
    by_cases g4:∀s∈c.Sets,0≤s∧s≤3
    ·rw [show (c.Sets.any fun a=>!(decide (0≤a)&&decide (a≤3)))=false by rw [Bool.eq_false_iff];exact fun hh=>(a7s fun _=>a2s).1 hh g4]
     by_cases g6:∀q∈c.Snapshots,0≤q∧q≤(c.Sets.length:Int) - 1
     ·rw [show (c.Snapshots.any fun a=>!(decide (0≤a)&&decide (a≤(c.Sets.length:Int) - 1)))=false by rw [Bool.eq_false_iff];exact fun hh=>(a7s fun _=>a2s).1 hh g6]
      have g5:¬∀r∈c.Replicas,0≤r.Generation∧r.Generation≤(c.Sets.length:Int) - 1:=fun h=>g ⟨by omega,by omega,g3,g4,h,g6⟩
      rw [(a7s fun r:p9=>(a2s:(decide (0≤r.Generation)&&decide (r.Generation≤(c.Sets.length:Int) - 1))=true↔_)).2 g5];rfl
     ·rw [(a7s fun r:Int=>(a2s:(decide (0≤r)&&decide (r≤(c.Sets.length:Int) - 1))=true↔_)).2 g6];rfl
    ·rw [(a7s fun r:Int=>(a2s:(decide (0≤r)&&decide (r≤3))=true↔_)).2 g4];rfl
   ·simp only [show decide ((120:Int)<c.Snapshots.length)=true from wV (by omega),Bool.or_true,vQ]
  ·have e:(decide ((1:Int)≤c.Sets.length)&&decide ((c.Sets.length:Int)≤121))=false:=by rw [Bool.eq_false_iff];exact fun hh=>g2 (a2s.1 hh)
   simp only [e,wY,Bool.true_or,vQ]
 ·have e:(decide ((1:Int)≤c.Replicas.length)&&decide ((c.Replicas.length:Int)≤5))=false:=by rw [Bool.eq_false_iff];exact fun hh=>g1 (a2s.1 hh)
  simp only [e,wY,vQ]
theorem d0c {r:o6} (h:a2x r):(a2x ⟨[],r.Credentials⟩)∨(F_n ⟨[],r.Credentials⟩=some 31∧F_8 ⟨[],r.Credentials⟩=some false):=by
 cases hc:r.Credentials with
 | nil=>exact .inl ⟨by simp,by simp,by simp,by simp,by simp⟩
 | cons x l =>
  right
  have nb:∀c:o7,¬c9a 0 c:=fun c h=>by have:=h.1;have:=h.2.1;omega
  have no:¬a2x ⟨[],x::l⟩:=fun h=>nb x (h.2.2.2.1 x (by simp))
  have hl:(x::l).length≤24:=by rw [←hc];exact h.2.1
  constructor
  ·have a2:e0f (x::l) ⟨[],x::l⟩=some true:=by
    unfold e0f f3k
    rw [a2j (fun _=>true) (x::l) fun k a ha=>?_]
    ·simp
    ·unfold f7e f1z
     rw [b6u (by simp),xZ,wI (show ¬c9a (o6.mk [] (x::l)).Issuers.length a from nb a)];rfl
   have a1:e1m []=some false:=rfl
   unfold F_n
   have e:(decide ((8:Int)<(([]:List a0e).length:Int))||decide ((24:Int)<((x::l).length:Int)))=false:=by simp at hl ⊢;omega
   simp only [grp,e,vO,a1,a2,xZ,vQ]
  ·rw [a5v _ (by simp),wI no]
theorem c3z {f:a01} {s:o5} (h:a6i f s) (n:Int) (hn:0≤n∧n≤3):a6i ⟨n,f.Consumers⟩ s∨(F_f ⟨n,f.Consumers⟩ s=some false∧F_5 ⟨n,f.Consumers⟩ s=some false):=by
 obtain ⟨⟨f1,f2,f3,f4⟩,k,v,u,w⟩:=h
 by_cases c:n=1∨n=2
 ·by_cases c3:s.Valid=3∧n=1
  ·right
   obtain ⟨v3,rfl⟩:=c3
   have k3:s.Known=3:=by omega
   have fo:c2j ⟨1,f.Consumers⟩:=⟨.inl rfl,f2,f3,f4⟩
   constructor
   ·unfold F_f
    rw [c1b fo,v3,k3]
    rfl
   ·unfold F_5
    rw [b1g fo,v3,k3]
    rfl
  ·left
   refine ⟨⟨c,f2,f3,f4⟩,k,?_,u,w⟩
   rcases v with v|⟨v1,v2⟩
   ·exact .inl v
   ·refine .inr ⟨v1,?_⟩
    rcases v2 with v2|⟨v2,_⟩
    ·exact .inl v2
    ·exact .inr ⟨v2,by show n=2;omega⟩
 ·right
  have e1:(!decide (n=1))=true:=by simp;omega
  have e2:(!decide (n=2))=true:=by simp;omega
  constructor
  ·unfold F_f e1g
   simp only [e1,e2,grp,w8,Bool.true_or,vQ,xZ]
   rfl
  ·unfold F_5 F_w
   have e:(decide (1≤n)&&decide (n≤2))=false:=by rw [Bool.eq_false_iff];exact fun hh=>by have:=a2s.1 hh;omega
   simp only [c36,e,xZ,wY,vQ,grp,Bool.true_or]
   rfl
theorem c1t {α:Type} [Inhabited α] {p:α→Bool}:∀(l:List α) (k:Nat),(b7e p k l).Pairwise (fun a b=>a<b)
 | [],k=>List.Pairwise.nil
 | x::r,k=>by
  have ih:=c1t (p:=p) r (k+1)
  simp only [b7e]
  cases p x with
  | false=>exact ih
  | true =>
   simp only [vQ]
   rw [List.pairwise_cons]
   exact ⟨fun a ha=>by obtain ⟨j,_,e,_⟩:=b5w.1 ha;omega,ih⟩
theorem d1l {L:List Int} (h:L.Pairwise (fun a b=>a<b)) (C:Int):(∃k∈L,C≤k)↔0<L.length∧C≤L.getD (L.length - 1) default:=by
 constructor
 ·rintro ⟨k,hk,q⟩
  have hl:0<L.length:=List.length_pos_of_mem hk
  refine ⟨hl,?_⟩
  obtain ⟨i,hi,rfl⟩:=xC.1 hk
  rw [zE,zJ (by omega),xY]
  by_cases e:i=L.length - 1
  ·subst e;exact q
  ·have:=List.pairwise_iff_getElem.1 h i (L.length - 1) hi (by omega) (by omega)
   omega
 ·rintro ⟨hl,q⟩
  exact ⟨_,a8u (by omega),q⟩
theorem g7h {d:d9} {a:l5} (g:a1g d) (c:Int):(c3f (b1b d a c)).length≤24:=by
 have h:=d2h d a c
 have hl:=a6v d a c (d.Kinds.length+1) (-1)
 have e:b1b d a c=(match sin d a c (-1) with|some t=>[⟨-1,t⟩]|none=>[])++b0p d a c d.Kinds.length 0:=rfl
 have h0:=a6v d a c d.Kinds.length 0
 have hk:=g.kl
 cases hs:sin d a c (-1) with
 | none =>
  have e1:(b1b d a c).length=(b0p d a c d.Kinds.length 0).length:=by rw [e,hs];simp
  have:=d0f (b1b d a c)
  omega
 | some t =>
  have e1:(b1b d a c).any (fun x=>decide (x.Principal=-1))=true:=by rw [e,hs];simp
  rw [if_pos e1] at h
  unfold b1b at h ⊢
  omega
theorem d9g {s:l6} {x:a00} (k:Int) (h:0≤s.Readers∧s.Readers≤1000):f4a k x s=some (tl1 s x):=by
 unfold f4a tl1
 by_cases c:x.Principal=-1
 ·simp only [c,decide_true,vQ,jn,xZ,Bool.or_true,if_true,grp]
  by_cases c1:s.Since=-1
  ·simp [c1]
  ·by_cases c2:x.Time<s.Since
   ·simp [c1,c2]
   ·simp [c1,c2]
 ·simp only [c,decide_false,vO,jn,o8 (u6 (n:=s.Readers+1) (by omega) (by omega)),xZ,Bool.or_false,if_false,grp]
  by_cases c1:s.Since=-1
  ·simp [c1]
  ·by_cases c2:x.Time<s.Since
   ·simp [c1,c2]
   ·simp [c1,c2]
theorem c2f:∀(l:List a00) (k:Int) (s:l6),0≤s.Readers→s.Readers+l.length≤1000→a0d f4a l k s=some (l.foldl tl1 s)
 | [],k,s,h,h'=>rfl
 | x::r,k,s,h,h'=>by
  simp only [wC] at h'
  simp only [a0d,d9g k (show 0≤s.Readers∧s.Readers≤1000 by omega),xZ,wQ]
  refine c2f r (k+1) _ ?_ ?_
  ·show 0≤ite _ _ _;split<;>omega
  ·show ite _ _ _+(r.length:Int)≤1000;split<;>omega
def a5s (m:l6) (p q:Bool):l6:=l6.mk m.Fingerprint m.Spots m.Public m.Readers m.Since m.Severity p q
theorem d3p (p q:Bool):∀(l:List a00) (m:l6),l.foldl tl1 (a5s m p q)=a5s (l.foldl tl1 m) p q
 | [],m=>rfl
 | x::r,m=>by
  simp only [wQ]
  rw [show tl1 (a5s m p q) x=a5s (tl1 m x) p q from rfl]
  exact d3p p q r _
noncomputable def wrs (m:l6) (W:List p8):l6:=match e0d W with
 | some z=>bif z.2 then d3q m (W.getD z.1.toNat default) else m
 | none=>m
theorem e2e {m:l6} {W:List p8} (hl:W.length≤100):(wrs m W).Severity=m.Severity∨(wrs m W).Severity∈W:=by
 obtain ⟨z,ez,z1,z2⟩:=b5a W hl
 unfold wrs
 rw [ez]
 simp only
 cases h:z.2 with
 | false=>exact .inl rfl
 | true =>
  rw [h] at z1
  have hp:0<W.length:=by have:=of_decide_eq_true z1.symm;omega
  obtain ⟨q1,q2,_⟩:=z2 hp
  exact .inr (a8u (by omega))
theorem c2l (m:l6) (W:List p8):∃v,wrs m W=d3q m v:=by
 unfold wrs
 split
 ·rename_i z _
  cases z.2 with
  | true=>exact ⟨_,rfl⟩
  | false=>exact ⟨m.Severity,rfl⟩
 ·exact ⟨m.Severity,rfl⟩
def WOK (x:l7) (w:List Int) (L:List Int):Prop:=(w.length:Int)=x.Resources∧wOK w∧∀k∈L,k<x.Credentials
theorem d53 (w:List Int):f1y w=some (w.any fun a=>!(decide (0≤a)&&decide (a≤100))):=by
 unfold f1y f5y
 rw [a2j (fun a=>!(decide (0≤a)&&decide (a≤100))) w fun k a ha=>?_]
 unfold g35 f5z
 by_cases h:0≤a∧a≤100
 ·have e:(decide (a<0)||decide (100<a))=false:=by simp;omega
  simp only [grp,e,xZ,a2s.2 h];rfl
 ·have e:(decide (a<0)||decide (100<a))=true:=by simp;omega
  have e2:(decide (0≤a)&&decide (a≤100))=false:=by rw [Bool.eq_false_iff];exact fun hh=>h (a2s.1 hh)
  simp only [grp,e,xZ,e2];rfl
theorem d9a (L:List Int) (x:l7):f1x L x=some (L.any fun k=>decide (x.Credentials≤k)):=by
 unfold f1x f7j
 rw [a2j (fun k=>decide (x.Credentials≤k)) _ fun k a ha=>?_]
 show (bif decide (x.Credentials≤a) then some (Fl.ex k) else some (Fl.nx ()))=_
 cases decide (x.Credentials≤a)<;>rfl
theorem a6e {r:o6} (hr:a2x r) (fp:Int):(finds r fp).length≤24:=by
 have:=c1s (fun c:o7=>decide (c.Fingerprint=fp)) r.Credentials 0
 have:=hr.2.1
 unfold finds;omega
open Classical in
theorem d0h {m:l6} {r:o6} {x:l7} {w:List Int} (hr:a2x r) (hn:0≤m.Readers∧m.Readers≤24) :
  e1x m r x w=some (if a14 x then (if WOK x w (finds r m.Fingerprint) then (0,wrs m ((finds r m.Fingerprint).map (sev x w m.Readers m.Public))) else (2,m)) else (32,m)):=by
 unfold e1x
 rw [b5q hr,xZ,a5w]
 simp only [decide_true,w6,vO,xZ]
 by_cases g:a14 x
 ·simp only [if_pos g,decide_true,w6,vO]
  rw [d6k hr,xZ,d53]
  simp only [xZ]
  rw [d9a]
  simp only [xZ]
  have hL:∀k∈finds r m.Fingerprint,0≤k∧k<24:=fun k hk=>b73 hr hk
  have hlen:=a6e hr m.Fingerprint
  generalize finds r m.Fingerprint=L at *
  by_cases h1:(w.length:Int)=x.Resources
  ·by_cases h2:wOK w
   ·have e2:(w.any fun a=>!(decide (0≤a)&&decide (a≤100)))=false:=by rw [Bool.eq_false_iff];exact fun hh=>(a7s fun _=>a2s).1 hh h2
    by_cases h3:∀k∈L,k<x.Credentials
    ·have e3:(L.any fun k=>decide (x.Credentials≤k))=false:=by
      rw [List.any_eq_false];intro k hk;have:=h3 k hk;simp;omega
     rw [if_pos (show WOK x w L from ⟨h1,h2,h3⟩),wV h1,e2,e3]
     simp only [w6,vO]
     obtain ⟨f,hf⟩:∃f,f=sev x w m.Readers m.Public:=⟨_,rfl⟩
     refine Ok.eq (Ok.bind (Ok.forI (all:=L) (Q:=fun o:Fl (List p8) (Int×l6)=>o=.nx (L.map f)) (fun pre y=>y=pre.map f) L [] 0 [] rfl rfl rfl (fun pre k q y hw' hy=>?_) fun y hy=>by rw [hy]) fun o ho=>?_)
     ·have hk:k∈L:=by rw [hw'];simp
      have hp:pre.length<L.length:=by rw [hw'];simp
      unfold g2w
      rw [c6a g h2 h1 ⟨(hL k hk).1,by have:=h3 k hk;omega⟩ hn,xZ]
      simp only [decide_true,w6,vO]
      refine Ok.chk (a04 (by rw [hy];simp;omega)) (Ok.ret ?_)
      show _=_
      rw [hy,List.map_append,hf];rfl
     ·rw [ho,←hf]
      simp only [Fl.elim]
      obtain ⟨z,e,z1,z2⟩:=b5a (L.map f) (by simp;omega)
      unfold wrs
      rw [e,xZ]
      simp only
      cases h:z.2 with
      | false=>exact Ok.ret rfl
      | true =>
       rw [h] at z1
       have hp:0<(L.map f).length:=by have:=of_decide_eq_true z1.symm;omega
       obtain ⟨q1,q2,_⟩:=z2 hp
       simp only [vQ]
       exact Ok.chk (q9.2 ⟨q1,q2⟩) (Ok.ret rfl)
    ·have e3:(L.any fun k=>decide (x.Credentials≤k))=true:=by
      rw [List.any_eq_true]
      apply Classical.byContradiction
      intro hn'
      exact h3 fun k hk=>by
       apply Classical.byContradiction
       intro q
       exact hn' ⟨k,hk,wV (by omega)⟩
     rw [if_neg (show ¬WOK x w L from fun h=>h3 h.2.2),wV h1,e2,e3];rfl
   ·have e2:(w.any fun a=>!(decide (0≤a)&&decide (a≤100)))=true:=(a7s fun r:Int=>(a2s:(decide (0≤r)&&decide (r≤100))=true↔_)).2 h2
    rw [if_neg (show ¬WOK x w L from fun h=>h2 h.2.1),wV h1,e2];rfl
  ·rw [if_neg (show ¬WOK x w L from fun h=>h1 h.1),wI h1];rfl
 ·rw [if_neg g,if_neg g];rfl
structure Any (z:a0x):Prop where
 r:a2x z.r_∨(F_n z.r_=some 31∧F_8 z.r_=some false)
 nm:∀i∈z.r_.Issuers,i.Name.length≤1000000
 f0:0≤z.f_.Fingerprint
 f1:z.f_.Fingerprint≤18446744073709551615
 fw:z.f_.Where.length≤1000
 s:a6i z.qC z.s_∨(F_f z.qC z.s_=some false∧F_5 z.qC z.s_=some false)
 g:z.gB.Sets.length≤1000000
def m0 (z:a0x):l6:=l6.mk z.f_.Fingerprint (z.f_.Where.length:Int) false 0 (-1) (p8.mk 0 0 0 0) false false
theorem c3a {r:o6} (hr:a2x r) {x:l7} {w:List Int} {fp:Int} :
  Ok (jn (α:=Fl Unit (l6×Int)) ((e0i x w).bind fun y17=>bif (!y17) then some (.ex (zS,2)) else bif decide (0<((finds r fp).length:Int)) then chk (a0p (((finds r fp).length:Int) - 1)) (chk (inb (((finds r fp).length:Int) - 1) (finds r fp).length) (bif decide (x.Credentials≤((finds r fp).getD ((((finds r fp).length:Int) - 1)).toNat default)) then some (.ex (zS,2)) else some (.nx ()))) else some (.nx ())) fun o=>some o) fun o=>(WOK x w (finds r fp)∧o=.nx ())∨(¬WOK x w (finds r fp)∧o=.ex (zS,2)):=by
 have hlen:=a6e hr fp
 have hla:=d1l (c1t (p:=fun c:o7=>decide (c.Fingerprint=fp)) r.Credentials 0) x.Credentials
 rw [show b7e (fun c:o7=>decide (c.Fingerprint=fp)) 0 r.Credentials=finds r fp from rfl] at hla
 generalize finds r fp=L at *
 rw [b48]
 refine Ok.jn (P:=fun o=>(WOK x w L∧o=.nx ())∨(¬WOK x w L∧o=.ex (zS,2))) ?_ fun o ho=>Ok.ret ho
 simp only [xZ]
 refine Ok.ite (fun q=>Ok.ret (.inr ⟨fun h=>?_,rfl⟩)) fun q=>?_
 ·obtain ⟨h1,h2,_⟩:=h
  have:¬∃a∈w,¬(0≤a∧a≤100):=fun ⟨a,ha,n⟩=>n (h2 a ha)
  simp [h1,this] at q
  obtain ⟨a,ha,hb⟩:=q
  exact this ⟨a,ha,fun h=>by have:=hb h.1;omega⟩
 ·have hq:(w.length:Int)=x.Resources∧wOK w:=by
   simp only [Bool.not_eq_false',wG,xO,xX,zK] at q
   exact ⟨q.1,fun a ha=>by
    apply Classical.byContradiction
    intro n
    exact q.2 ⟨a,ha,n⟩⟩
  refine Ok.ite (fun e=>?_) fun e=>?_
  ·have e:=of_decide_eq_true e
   have ei:((L.length:Int) - 1).toNat=L.length - 1:=by omega
   refine Ok.chk (u6 (by omega) (by omega)) (Ok.chk (q9.2 ⟨by omega,by omega⟩) ?_)
   rw [ei]
   refine Ok.ite (fun c=>Ok.ret (.inr ⟨fun h=>?_,rfl⟩)) fun c=>Ok.ret (.inl ⟨⟨hq.1,hq.2,fun k hk=>?_⟩,rfl⟩)
   ·obtain ⟨k,hk,q1⟩:=hla.2 ⟨by omega,of_decide_eq_true c⟩
    have:=h.2.2 k hk
    omega
   ·have c:=of_decide_eq_false c
    apply Classical.byContradiction
    intro n
    exact c (hla.1 ⟨k,hk,by omega⟩).2
  ·have e:=of_decide_eq_false e
   refine Ok.ret (.inl ⟨⟨hq.1,hq.2,fun k hk=>?_⟩,rfl⟩)
   have:=List.length_pos_of_mem hk
   omega
theorem c9o (z:a0x):∃l:List a00,∃e:Int,F_a z.d_ z.a_ z.c_=some (l,e)∧F_7 z.d_ z.a_ z.c_=some (l,e)∧(e=0→a1g z.d_∧Good z.a_∧l=b1b z.d_ z.a_ z.c_∧l.length≤25∧Tl l (m0 z) (l.foldl tl1 (m0 z))∧0≤(l.foldl tl1 (m0 z)).Readers∧(l.foldl tl1 (m0 z)).Readers≤24):=by
 obtain ⟨l,e,h1,h2,h3⟩:=d9z z.d_ z.a_ z.c_
 refine ⟨l,e,h1,h2,fun he=>?_⟩
 obtain ⟨g,h,c0,c1,hl⟩:=h3 he
 have t:=c9n (m:=m0 z) rfl (b1b z.d_ z.a_ z.c_) fun x hx=>(b7s g h x hx).1
 have r:=g7h (a:=z.a_) g z.c_
 have hr:((b1b z.d_ z.a_ z.c_).foldl tl1 (m0 z)).Readers=(c3f (b1b z.d_ z.a_ z.c_)).length:=by have:=t.rd;rw [this];simp [m0]
 have hn:=a6v z.d_ z.a_ z.c_ (z.d_.Kinds.length+1) (-1)
 have hk:=g.kl
 subst hl
 exact ⟨g,h,rfl,by unfold b1b;omega,t,by omega,by omega⟩
theorem f9y {z:a0x} (h:Any z) {m:l6} (f:m.Fingerprint=z.f_.Fingerprint) (s:m.Spots=(z.f_.Where.length:Int)) (r:0≤m.Readers∧m.Readers≤24) (i:-1≤m.Since∧m.Since≤1099511627776)
  (v:0≤m.Severity.Score∧m.Severity.Score≤1000000∧0≤m.Severity.Worth∧m.Severity.Worth≤7200∧0≤m.Severity.Audience∧m.Severity.Audience≤100∧0≤m.Severity.Level∧m.Severity.Level≤4):SV m:=by
 have hfw:=h.fw
 exact ⟨by rw [f];exact h.f0,by rw [f];exact h.f1,u6 (by omega) (by omega),u6 (by omega) (by omega),u6 (by omega) (by omega),u6 (by omega) (by omega),u6 (by omega) (by omega),u6 (by omega) (by omega),u6 (by omega) (by omega)⟩
open Classical in
theorem c8n {z:a0x} (h:Any z) {l:List a00} {e:Int} (h1:F_a z.d_ z.a_ z.c_=some (l,e)) (hl:e=0→l.length≤25∧0≤(l.foldl tl1 (m0 z)).Readers∧(l.foldl tl1 (m0 z)).Readers≤24∧(l.foldl tl1 (m0 z)).Fingerprint=z.f_.Fingerprint) :
  e06 z=some (if e=0 then (if a2x z.r_ then (if a14 z.x_ then (if WOK z.x_ z.w_ (finds z.r_ z.f_.Fingerprint) then (if a6i z.qC z.s_ then (if a5p z.gB then
   (a5s (wrs (l.foldl tl1 (m0 z)) ((finds z.r_ z.f_.Fingerprint).map (sev z.x_ z.w_ (l.foldl tl1 (m0 z)).Readers (l.foldl tl1 (m0 z)).Public))) (decide (z.s_.Valid=2)&&z.s_.Units.all b3x) (b7z z.gB 1),0)
   else (zS,39)) else (zS,36)) else (zS,2)) else (zS,32)) else (zS,31)) else (zS,e)):=by
 unfold e06 f5l f7n
 rw [h1,xZ]
 by_cases he:e=0
 ·obtain ⟨l1,r0,r1,fp⟩:=hl he
  subst he
  simp only [decide_true,w6,vO,if_true]
  rw [show (l6.mk z.f_.Fingerprint (z.f_.Where.length:Int) false 0 (-1) (p8.mk 0 0 0 0) false false)=m0 z from rfl,c55 l 0 (m0 z) (vN 0) (by show (0:Int)+_≤1000;omega)]
  simp only [xZ,decide_true,w6,vO]
  rcases h.r with hr|⟨hr,hr2⟩
  ·rw [d0h hr ⟨r0,r1⟩,xZ,if_pos hr,fp]
   by_cases g:a14 z.x_
   ·rw [if_pos g,if_pos g]
    by_cases w:WOK z.x_ z.w_ (finds z.r_ z.f_.Fingerprint)
    ·rw [if_pos w,if_pos w]
     simp only [decide_true,w6,vO]
     rcases h.s with hs|⟨hs,hs2⟩
     ·rw [b5m hs,if_pos hs,xZ,b9g h.g,xZ]
      by_cases c:a5p z.gB
      ·rw [if_pos c,if_pos c,d0o hs,d6l c (.inl rfl)];rfl
      ·rw [if_neg c,if_neg c];rfl
     ·rw [hs,if_neg (fun q=>by rw [b5m q] at hs;cases hs)];rfl
    ·rw [if_neg w,if_neg w];rfl
   ·rw [if_neg g,if_neg g];rfl
  ·have:¬a2x z.r_:=fun q=>by rw [b5q q] at hr;cases hr
   rw [if_neg this]
   unfold e1x
   rw [hr];rfl
 ·rw [if_neg he]
  simp only [wI he,wY,vQ,xZ]
  rfl
theorem d9k {α:Type} (x:Option α):(x.bind fun o=>some o)=x:=by cases x<;>rfl
theorem d5i {m:l6} {x:l7} {w L:List Int} (g:a14 x) (h:WOK x w L) (h0:∀k∈L,0≤k) (hn:0≤m.Readers∧m.Readers≤24) (hl:L.length≤24):a0d (f7l x w m) L 0 []=some (L.map (sev x w m.Readers m.Public)):=by
 obtain ⟨f,hf⟩:∃f,f=sev x w m.Readers m.Public:=⟨_,rfl⟩
 rw [←hf]
 refine Ok.eq (Ok.foldI (all:=L) (Q:=fun o:List p8=>o=L.map f) (fun pre y=>y=pre.map f) L [] 0 [] rfl rfl rfl (fun pre k q y hw' hy=>?_) fun y hy=>hy)
 have hk:k∈L:=by rw [hw'];simp
 have hp:pre.length<L.length:=by rw [hw'];simp
 unfold f7l
 rw [d02,c6a g h.2.1 h.1 ⟨h0 k hk,by have:=h.2.2 k hk;omega⟩ hn,xZ]
 refine Ok.chk (a04 (by rw [hy];simp;omega)) (Ok.ret ?_)
 show _=_
 rw [hy,List.map_append,hf];rfl
theorem e2f {M:l6} {p q:Bool} {W:List p8} (hl:W.length≤100):(((jn (α:=l6) ((f0w W).bind fun y160=>bif y160.2 then chk (inb y160.1 W.length) (some (l6.mk (a5s M p q).Fingerprint (a5s M p q).Spots (a5s M p q).Public (a5s M p q).Readers (a5s M p q).Since (W.getD (y160.1).toNat default) (a5s M p q).Rotated (a5s M p q).Dead)) else some (a5s M p q)) fun j158=>some (j158,(0:Int)))).bind fun y2=>some (y2.1,y2.2))=some (a5s (wrs M W) p q,0):=by
 obtain ⟨z,e,z1,z2⟩:=b5a W hl
 rw [show f0w W=e0d W from rfl]
 unfold wrs jn
 rw [e,xZ]
 simp only
 cases h:z.2 with
 | false=>rfl
 | true =>
  rw [h] at z1
  have hp:0<W.length:=by have:=of_decide_eq_true z1.symm;omega
  obtain ⟨q1,q2,_⟩:=z2 hp
  simp only [vQ]
  rw [o8 (q9.2 ⟨q1,q2⟩)]
  rfl
open Classical in
theorem c9i {z:a0x} (h:Any z) {l:List a00} {e:Int} (h1:F_7 z.d_ z.a_ z.c_=some (l,e)) (hl:e=0→l.length≤25∧0≤(l.foldl tl1 (m0 z)).Readers∧(l.foldl tl1 (m0 z)).Readers≤24) :
  e05 z=some (if e=0 then (if a2x z.r_ then (if a14 z.x_ then (if WOK z.x_ z.w_ (finds z.r_ z.f_.Fingerprint) then (if a6i z.qC z.s_ then (if a5p z.gB then
   (a5s (wrs (l.foldl tl1 (m0 z)) ((finds z.r_ z.f_.Fingerprint).map (sev z.x_ z.w_ (l.foldl tl1 (m0 z)).Readers (l.foldl tl1 (m0 z)).Public))) (decide (z.s_.Valid=2)&&z.s_.Units.all b3x) (b7z z.gB 1),0)
   else (zS,39)) else (zS,36)) else (zS,2)) else (zS,32)) else (zS,31)) else (zS,e)):=by
 unfold e05 f7t
 rw [h1,xZ]
 by_cases he:e=0
 ·obtain ⟨l1,r0,r1⟩:=hl he
  subst he
  simp only [decide_true,w6,vO,if_true]
  rw [a5v _ h.nm,xZ]
  by_cases hr:a2x z.r_
  ·rw [if_pos hr,wV hr,a8b]
   simp only [w6,vO,xZ]
   by_cases g:a14 z.x_
   ·rw [if_pos g,wV g,d6b hr]
    simp only [w6,vO,xZ]
    obtain ⟨o,eo,ho⟩:=c3a hr (x:=z.x_) (w:=z.w_) (fp:=z.f_.Fingerprint)
    simp only [jn,xZ] at eo
    unfold jn
    rw [show (l6.mk 0 0 false 0 0 (p8.mk 0 0 0 0) false false)=zS from rfl]
    generalize hL:finds z.r_ z.f_.Fingerprint=L at *
    rw [d9k] at eo
    rw [eo,xZ]
    rcases ho with ⟨w,rfl⟩|⟨w,rfl⟩
    ·rw [if_pos w]
     simp only [Fl.elim]
     rcases h.s with hs|⟨hs2,hs⟩
     ·rw [a8d hs,if_pos hs,xZ,b94 h.g,xZ]
      by_cases c:a5p z.gB
      ·rw [if_pos c,wV c,c63 hs,d0g c]
       simp only [w6,vO,xZ]
       generalize hp:(decide (z.s_.Valid=2)&&z.s_.Units.all b3x)=p
       generalize hq:b7z z.gB 1=q
       rw [show (l6.mk z.f_.Fingerprint (z.f_.Where.length:Int) false 0 (-1) (p8.mk 0 0 0 0) p q)=a5s (m0 z) p q from rfl,c2f l 0 _ (vN 0) (by show (0:Int)+_≤1000;omega),d3p,xZ]
       generalize hM:l.foldl tl1 (m0 z)=M at *
       rw [d5i (m:=a5s M p q) g w (fun k hk=>(b73 hr (hL▸hk)).1) ⟨r0,r1⟩ (by rw [←hL];exact a6e hr _),xZ]
       exact e2f (by rw [wP,←hL];have:=a6e hr z.f_.Fingerprint;omega)
      ·rw [if_neg c,wI c];rfl
     ·rw [hs,if_neg (fun q=>by rw [a8d q] at hs;cases hs)];rfl
    ·rw [if_neg w];rfl
   ·rw [if_neg g,wI g];rfl
  ·rw [if_neg hr,wI hr];rfl
 ·rw [if_neg he]
  simp only [wI he,wY,vQ,xZ]
  rfl
theorem b47 {z:a0x} (h:Any z):∃y,e06 z=some y∧e05 z=some y∧SV y.1:=by
 classical
 obtain ⟨l,e,h1,h2,h3⟩:=c9o z
 refine ⟨_,c8n h h1 (fun he=>?_),c9i h h2 (fun he=>?_),?_⟩
 ·obtain ⟨_,_,_,a,t,b,c⟩:=h3 he;exact ⟨a,b,c,t.fp⟩
 ·obtain ⟨_,_,_,a,t,b,c⟩:=h3 he;exact ⟨a,b,c⟩
 by_cases he:e=0
 ·obtain ⟨gd,ga,hl,l1,t,r0,r1⟩:=h3 he
  rw [if_pos he]
  by_cases hr:a2x z.r_
  ·rw [if_pos hr]
   by_cases g:a14 z.x_
   ·rw [if_pos g]
    by_cases w:WOK z.x_ z.w_ (finds z.r_ z.f_.Fingerprint)
    ·rw [if_pos w]
     by_cases s:a6i z.qC z.s_
     ·rw [if_pos s]
      by_cases c:a5p z.gB
      ·rw [if_pos c]
       generalize hM:l.foldl tl1 (m0 z)=M at *
       have hn:=a6e hr z.f_.Fingerprint
       have hv:=e2e (m:=M) (W:=(finds z.r_ z.f_.Fingerprint).map (sev z.x_ z.w_ M.Readers M.Public)) (by simp;omega)
       obtain ⟨v,ev⟩:=c2l M ((finds z.r_ z.f_.Fingerprint).map (sev z.x_ z.w_ M.Readers M.Public))
       rw [ev] at hv ⊢
       refine f9y h t.fp t.sp ⟨r0,r1⟩ ?_ ?_
       ·show -1≤M.Since∧M.Since≤1099511627776
        rcases t.si with ⟨_,e⟩|⟨⟨x,hx,e⟩,_⟩
        ·omega
        ·rw [hl] at hx
         have:=b7s gd ga x hx;omega
       ·show 0≤v.Score∧v.Score≤1000000∧0≤v.Worth∧v.Worth≤7200∧0≤v.Audience∧v.Audience≤100∧0≤v.Level∧v.Level≤4
        rcases hv with hv|hv
        ·have e5:=t.sv
         rw [show v=M.Severity from hv,e5,show (m0 z).Severity=p8.mk 0 0 0 0 from rfl];exact ⟨by decide,by decide,by decide,by decide,by decide,by decide,by decide,by decide⟩
        ·obtain ⟨k,_,hv⟩:=vG.1 hv
         rw [show v=_ from hv.symm]
         exact d5j g w.2.1 w.1 r0 r1 _ k
      ·rw [if_neg c];exact c2k
     ·rw [if_neg s];exact c2k
    ·rw [if_neg w];exact c2k
   ·rw [if_neg g];exact c2k
  ·rw [if_neg hr];exact c2k
 ·rw [if_neg he];exact c2k
theorem c6g {z:a0x} {y:l6×Int} (b:e06 z=some y) (w:e05 z=some y) (k:Int) (l:List l6) (hl:l.length≤100):f7s k z l=some (.nx (l++[y.1])):=by
 unfold f7s
 rw [b,w]
 simp only [xZ,grp,decide_true,beq_self_eq_true,Bool.and_true,w6,Bool.or_false,vO]
 exact o8 (a04 (by simp only [zV];omega))
theorem b9k {m:l6} (h:SV m) (k:Int):f7q k m ()=some (.nx ()):=by
 unfold f7q
 rw [c57 h,e2p h]
 simp only [xZ,decide_true,w6,vO]
 rw [b83,show f5k m=some (m.Rotated&&m.Dead) from rfl]
 simp only [xZ,beq_self_eq_true,w6,vO]
theorem d32 {t:x8} {d:d9} (h:TOK t) (g:a1g d) (h1:1≤d.Kinds.length):Ok (f3n t d) fun y=>TOK y.2:=by
 have h2:=g.kl;have h3:=g.el
 unfold f3n
 refine Ok.chk (a04 (by omega)) (Ok.chk (a04 (by omega)) (Ok.bind (a02 h (by omega)) fun k hk=>?_))
 refine Ok.ite (fun _=>?_) fun _=>Ok.ite (fun _=>?_) fun _=>Ok.ite (fun _=>?_) fun _=>?_
 ·exact Ok.bind (a02 hk.2.2 (by omega)) fun a ha=>Ok.bind (a0b ha.2.2 (by omega) (by omega) (by omega)) fun b hb=>Ok.chk (q9.2 ⟨ha.1,ha.2.1⟩) (Ok.ret hb.2.2)
 ·exact Ok.bind (a0b hk.2.2 (by omega) (by omega) (by omega)) fun a ha=>Ok.bind (a02 ha.2.2 (by omega)) fun b hb=>Ok.bind (a0b hb.2.2 (by omega) (by omega) (by omega)) fun c hc=>Ok.bind (a0b hc.2.2 (by omega) (by omega) (by omega)) fun e he=>Ok.chk (a04 (by simp only [zV];omega)) (Ok.ret he.2.2)
 ·refine Ok.ite (fun c=>?_) fun _=>Ok.ret hk.2.2
  have c:0<(d.Events.length:Int):=by simpa using c
  exact Ok.bind (a02 hk.2.2 c) fun a ha=>Ok.bind (a02 ha.2.2 (by omega)) fun b hb=>Ok.chk (q9.2 ⟨ha.1,ha.2.1⟩) (Ok.ret hb.2.2)
 ·refine Ok.bind (Ok.loop (Q:=fun _:List Int=>True) (fun x=>x.length≤25) (fun x=>25 - x.length) (fun x hx=>?_) _ (by omega)) fun r _=>Ok.ret hk.2.2
  unfold g1x
  refine Ok.ite (fun c=>Ok.chk (a04 (by simp only [zV];omega)) (Ok.ret ?_)) fun _=>Ok.ret trivial
  have c:(x.length:Int)≤24:=by simpa using c
  simp only [Fl.elim,xK,zV];omega
theorem d34 {t:x8} {a:l5} (h:TOK t) (g:Good a):Ok (f2e t a) fun y=>TOK y.2:=by
 have hn:=g.len
 unfold f2e
 refine Ok.chk (a04 (by omega)) (Ok.bind (a02 h (by omega)) fun y hy=>?_)
 refine Ok.ite (fun _=>Ok.bind (a5y hy.2.2 (by simp)) fun z hz=>Ok.ret hz.2) fun _=>?_
 refine Ok.ite (fun _=>?_) fun _=>?_
 ·refine Ok.bind (a0b hy.2.2 (by omega) (by omega) (by omega)) fun b1 h1=>Ok.bind (a02 h1.2.2 (by omega)) fun b2 h2=>Ok.bind (a0b h2.2.2 (by omega) (by omega) (by omega)) fun b3 h3=>Ok.bind (a02 h3.2.2 (by omega)) fun b4 h4=>Ok.bind (a02 h4.2.2 (by omega)) fun b5 h5=>Ok.bind (a02 h5.2.2 (by omega)) fun b6 h6=>Ok.bind (a02 h6.2.2 (by omega)) fun b7 h7=>Ok.chk (a04 (by simp only [zV];omega)) (Ok.ret h7.2.2)
 ·refine Ok.ite (fun c=>?_) fun _=>Ok.ret hy.2.2
  have c:0<(a.Events.length:Int):=by simpa using c
  refine Ok.bind (a02 hy.2.2 c) fun i hi=>Ok.chk (q9.2 ⟨hi.1,hi.2.1⟩) (Ok.bind (a02 hi.2.2 (by omega)) fun k hk=>?_)
  refine Ok.ite (fun _=>Ok.bind (a02 hk.2.2 (by omega)) fun z hz=>Ok.ret hz.2.2) fun _=>?_
  refine Ok.ite (fun _=>Ok.bind (a0b hk.2.2 (by omega) (by omega) (by omega)) fun z hz=>Ok.ret hz.2.2) fun _=>?_
  refine Ok.ite (fun _=>?_) fun _=>Ok.bind (a02 hk.2.2 (by omega)) fun z hz=>Ok.ret hz.2.2
  have hlt:i.1.toNat<a.Events.length:=by have:=hi.1;have:=hi.2.1;omega
  have hx:=g.ev _ (wD hlt)
  have e:a.Events.getD i.1.toNat default=a.Events[i.1.toNat]:=by rw [zE,zJ hlt];rfl
  rw [e]
  have:=hx.2.2.2.2
  exact Ok.chk (u6 (by omega) (by omega)) (Ok.ret hk.2.2)
theorem d31 {t:x8} (h:TOK t) {x:l7} (g:a14 x):Ok (f2d t x) fun y=>TOK y.2:=by
 have h1:=g.gl;have h2:=g.sl;have h3:=g.ml
 unfold f2d
 refine Ok.bind (a02 h (by omega)) fun k hk=>?_
 obtain ⟨_,_,hT⟩:=hk
 refine Ok.ite (fun _=>?_) fun _=>Ok.ite (fun _=>?_) fun _=>Ok.ite (fun _=>?_) fun _=>Ok.ite (fun _=>?_) fun _=>?_
 ·refine Ok.chk (a04 (by omega)) (Ok.bind (a0b hT (by omega) (by omega) (by omega)) fun a ha=>Ok.bind (a0b ha.2.2 (by omega) (by omega) (by omega)) fun b hb=>Ok.bind (a02 hb.2.2 (by omega)) fun c hc=>Ok.chk (a04 (by simp only [zV];omega)) (Ok.ret hc.2.2))
 ·refine Ok.chk (a04 (by omega)) (Ok.bind (a0b hT (by omega) (by omega) (by omega)) fun a ha=>Ok.bind (a0b ha.2.2 (by omega) (by omega) (by omega)) fun b hb=>Ok.chk (a04 (by simp only [zV];omega)) (Ok.ret hb.2.2))
 ·refine Ok.chk (a04 (by omega)) (Ok.bind (a0b hT (by omega) (by omega) (by omega)) fun a ha=>Ok.bind (a0b ha.2.2 (by omega) (by omega) (by omega)) fun b hb=>Ok.chk (a04 (by simp only [zV];omega)) (Ok.ret hb.2.2))
 ·exact Ok.bind (a5y hT (by simp)) fun a ha=>Ok.ret ha.2
 ·exact Ok.bind (a5y hT (by simp)) fun a ha=>Ok.ret ha.2
theorem d33 {t:x8} {c:l9} (h:TOK t) (g:a5p c):Ok (f2c t c) fun y=>y.1.Sets.length≤1000000:=by
 obtain ⟨h1,h2,h3,_⟩:=g
 unfold f2c e1o
 rw [o8 (a04 (by omega)),o8 (a04 (by omega)),o8 (a04 (by omega)),xZ]
 have s:c.Sets.length≤1000000:=by omega
 refine Ok.bind (a02 h (by omega)) fun k hk=>?_
 refine Ok.ite (fun _=>?_) fun _=>Ok.ite (fun _=>?_) fun _=>Ok.ite (fun _=>?_) fun _=>Ok.ite (fun _=>?_) fun _=>Ok.ret s
 ·exact Ok.bind (a02 hk.2.2 (by simp only;omega)) fun a ha=>Ok.bind (a0b ha.2.2 (by omega) (by omega) (by omega)) fun b hb=>Ok.chk (q9.2 ⟨ha.1,ha.2.1⟩) (Ok.ret (by show (List.set _ _ _).length≤1000000;rw [List.length_set];exact s))
 ·exact Ok.bind (a02 hk.2.2 (by simp only;omega)) fun a ha=>Ok.bind (a0b ha.2.2 (by omega) (by simp only;omega) (by simp only;omega)) fun b hb=>Ok.chk (q9.2 ⟨ha.1,ha.2.1⟩) (Ok.ret s)
 ·exact Ok.bind (a0b hk.2.2 (by omega) (by simp only;omega) (by simp only;omega)) fun b hb=>Ok.chk (a04 (by simp only [zV];omega)) (Ok.ret s)
 ·exact Ok.bind (a02 hk.2.2 (by simp only;omega)) fun a ha=>Ok.chk (q9.2 ⟨ha.1,ha.2.1⟩) (Ok.ret s)
theorem d8y {raw:l6} (hr:(l6.v raw).fact) (l ws:List Int) (co n:Int):F_k l raw ws co n=some true:=by
 refine Ok.eq ?_
 unfold F_k
 refine Ok.grp (Ok.ite (fun _=>Ok.bind (P:=fun y=>y=true) (Ok.of c8q rfl) fun y hy=>Ok.ret hy) fun c=>?_)
 have c:¬600<(l.length:Int):=by
  simp only [xE,zK] at c
  exact c.1
 refine Ok.bind (d85 (t:=⟨l,0⟩) ⟨vN 0,by show l.length≤1000;omega⟩) fun z hz=>?_
 obtain ⟨s,_,_,_,hT⟩:=hz
 have nm:∀i∈z.1.r_.Issuers,i.Name.length≤1000000:=fun i hi=>by have:=(s.r.2.2.1 i hi).1.2.1;omega
 have gs:z.1.gB.Sets.length≤1000000:=by have:=s.g.2.1;omega
 have a0:Any z.1:=⟨.inl s.r,nm,s.f0,s.f1,s.fw,.inl s.s,gs⟩
 refine Ok.jn (P:=fun j=>Any j) ?_ fun j hj=>?_
 ·refine Ok.ite (fun _=>?_) fun _=>Ok.ite (fun _=>?_) fun _=>Ok.ite (fun _=>?_) fun _=>Ok.ite (fun _=>?_) fun _=>Ok.ite (fun _=>?_) fun _=>Ok.ite (fun _=>?_) fun _=>Ok.ite (fun _=>?_) fun _=>?_
  ·exact Ok.bind (d32 hT s.d s.dk1) fun y _=>Ok.ret ⟨.inl s.r,nm,s.f0,s.f1,s.fw,.inl s.s,gs⟩
  ·exact Ok.bind (d34 hT s.a) fun y _=>Ok.ret ⟨.inl s.r,nm,s.f0,s.f1,s.fw,.inl s.s,gs⟩
  ·exact Ok.ret ⟨d0c s.r,by simp,s.f0,s.f1,s.fw,.inl s.s,gs⟩
  ·exact Ok.bind (d31 hT s.x) fun y _=>Ok.ret ⟨.inl s.r,nm,s.f0,s.f1,s.fw,.inl s.s,gs⟩
  ·exact Ok.ret ⟨.inl s.r,nm,s.f0,s.f1,s.fw,.inl s.s,gs⟩
  ·exact Ok.ret ⟨.inl s.r,nm,s.f0,s.f1,s.fw,.inl s.s,gs⟩
  ·exact Ok.bind (a02 hT (by omega)) fun y hy=>Ok.ret ⟨.inl s.r,nm,s.f0,s.f1,s.fw,c3z s.s y.1 ⟨hy.1,by have:=hy.2.1;omega⟩,gs⟩
  ·exact Ok.bind (d33 hT s.g) fun y hy=>Ok.ret ⟨.inl s.r,nm,s.f0,s.f1,s.fw,.inl s.s,hy⟩
 ·obtain ⟨y1,b1,w1,s1⟩:=b47 a0
  obtain ⟨y2,b2,w2,s2⟩:=b47 hj
  simp only [a10,c6g b1 w1 _ [raw] (by simp),c6g b2 w2 _ [raw,y1.1] (by simp),xZ,Fl.elim,wE,wL,b9k (d5d hr),b9k s1,b9k s2,c8q]
  exact Ok.ret rfl
theorem d9c {raw:l6} {l ws:List Int} {c n:Int}:a0o Tryz.prog 3 [.sl (l.map (V.int .i64)),l6.v raw,.sl (ws.map (V.int .i64)),.int .i64 c,.int .i64 n] [] (fun r H=>r=.bool true∧H=[]) :=
 c0f (by kernel_rfl) fun h=>g83.c.w (d8y (h _ (by simp)) l ws c n)
end Go.Ab