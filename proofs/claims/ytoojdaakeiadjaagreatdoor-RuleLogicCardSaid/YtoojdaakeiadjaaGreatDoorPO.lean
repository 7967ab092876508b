/- Rules: numbers of terms, depths, and which are right. -/
import Derived.Test.YtoojdaakeiadjaaGreatDoorLA
import Derived.Test.YtoojdaakeiadjaaGreatDoorAbHo
import Derived.Test.YtoojdaakeiadjaaGreatDoorAbMir
import Derived.Test.YtoojdaakeiadjaaGreatDoorLC
import Derived.Test.YtoojdaakeiadjaaGreatDoorLD
import Derived.Test.YtoojdaakeiadjaaGreatDoorMI
set_option linter.all false
set_option linter.all false
namespace Go.Ab
open Go.Proofs
theorem in64_s {n:Int} (h1:-1000000000000000≤n) (h2:n≤1000000000000000):in64 n=true:=in64_iff.2 ⟨by omega,by omega⟩
theorem room_s {n b:Nat} (h:n*b≤100000000):room n b=true:=room_iff.2 (by omega)
theorem mem_at {α:Type} {l pre r:List α} {x:α} (hw:l=pre++x::r):x∈l:=by rw [hw];simp
mutual
def GTerm.hgt:GTerm→Nat
 | ⟨_,_,_,_,k⟩=>GTerm.hgts k+1
def GTerm.hgts:List GTerm→Nat
 | []=>0
 | a::r=>max (GTerm.hgt a) (GTerm.hgts r)
end
theorem hgt_eq (x:GTerm):x.hgt=GTerm.hgts x.Kids+1:=by cases x;simp only [GTerm.hgt]
theorem hgts_mem:∀{l:List GTerm} {k:GTerm},k∈l→k.hgt≤GTerm.hgts l
 | a::r,k,h=>by
  simp only [GTerm.hgts]
  rcases List.mem_cons.1 h with rfl|h
  ·omega
  ·have:=hgts_mem h;omega
theorem kid_hgt {x k:GTerm} (h:k∈x.Kids):k.hgt<x.hgt:=by rw [hgt_eq x];have:=hgts_mem h;omega
theorem hgt_pos (x:GTerm):1≤x.hgt:=by rw [hgt_eq];omega
theorem GTerm.ind {P:GTerm→Prop} (h:∀x,(∀k∈x.Kids,P k)→P x):∀x,P x:=by
 have:∀n (x:GTerm),x.hgt≤n→P x:=by
  intro n
  induction n with
  | zero=>intro x hx;have:=hgt_pos x;omega
  | succ n ih=>intro x hx;exact h x fun k hk=>ih k (by have:=kid_hgt hk;omega)
 exact fun x=>this x.hgt x (Nat.le_refl _)
mutual
def GTerm.cnt:GTerm→Int
 | ⟨_,_,_,_,k⟩=>GTerm.cnts k+1
def GTerm.cnts:List GTerm→Int
 | []=>0
 | a::r=>GTerm.cnt a+GTerm.cnts r
end
theorem cnt_eq (x:GTerm):x.cnt=GTerm.cnts x.Kids+1:=by cases x;simp only [GTerm.cnt]
theorem cnts_nn':∀{l:List GTerm},(∀k∈l,1≤k.cnt)→(l.length:Int)≤GTerm.cnts l
 | [],_=>by simp [GTerm.cnts]
 | a::r,h=>by
  have h1:=h a (by simp)
  have h2:=cnts_nn' (l:=r) fun k hk=>h k (by simp [hk])
  simp only [GTerm.cnts,List.length_cons];omega
theorem cnt_pos:∀x:GTerm,1≤x.cnt:=GTerm.ind fun x ih=>by rw [cnt_eq];have:=cnts_nn' ih;omega
theorem cnts_len (l:List GTerm):(l.length:Int)≤GTerm.cnts l:=cnts_nn' fun k _=>cnt_pos k
theorem cnts_append:∀a b:List GTerm,GTerm.cnts (a++b)=GTerm.cnts a+GTerm.cnts b
 | [],b=>by simp [GTerm.cnts]
 | x::r,b=>by simp only [List.cons_append,GTerm.cnts,cnts_append r b];omega
theorem terms_ok:∀(x:GTerm) (m:Nat),x.hgt≤m→Ok (FR_5 m x) (·=min x.cnt 61):=by
 refine GTerm.ind fun x ih m hm=>?_
 cases m with
 | zero=>have:=hgt_pos x;omega
 | succ m =>
  simp only [FR_5]
  refine Ok.bind (Ok.forI (all:=x.Kids) (Q:=fun o=>o=if 1+GTerm.cnts x.Kids≤60 then .nx (1+GTerm.cnts x.Kids) else .ex 61) (fun pre s=>s=1+GTerm.cnts pre∧s≤60) x.Kids [] 0 1 rfl rfl ⟨by simp [GTerm.cnts],by omega⟩ (fun pre k r s hw hs=>?_) fun s hs=>?_) fun o ho=>?_
  ·obtain ⟨hs,hs2⟩:=hs
   have hk:=mem_at hw
   have h1:=cnts_len pre
   have h2:=cnts_len r
   have h3:=cnt_pos k
   have hc:GTerm.cnts x.Kids=GTerm.cnts pre+(k.cnt+GTerm.cnts r):=by rw [hw,cnts_append];simp only [GTerm.cnts]
   refine Ok.bind (ih k hk m (by have:=kid_hgt hk;omega)) fun y hy=>?_
   subst hy
   refine Ok.chk (in64_s (by omega) (by omega)) (Ok.ite (fun c=>?_) fun c=>?_)
   ·have c:=of_decide_eq_true c
    refine Ok.ret ?_
    show Fl.ex 61=_
    rw [if_neg (by omega)]
   ·have c:=of_decide_eq_false c
    exact Ok.ret ⟨by rw [cnts_append];simp only [GTerm.cnts];omega,by omega⟩
  ·rw [if_pos (by omega),←hs.1]
  ·subst ho
   rw [cnt_eq]
   by_cases c:1+GTerm.cnts x.Kids≤60
   ·rw [if_pos c];exact Ok.ret (by show _=min _ _;omega)
   ·rw [if_neg c];exact Ok.ret (by show _=min _ _;omega)
theorem terms_eq (x:GTerm):F_5 x=some (min x.cnt 61):=lim_of ⟨x.hgt,fun m hm=>(terms_ok x m hm).eq⟩
theorem hgts_append:∀a b:List GTerm,GTerm.hgts (a++b)=max (GTerm.hgts a) (GTerm.hgts b)
 | [],b=>by simp [GTerm.hgts]
 | x::r,b=>by simp only [List.cons_append,GTerm.hgts,hgts_append r b];omega
theorem depth_ok:∀(x:GTerm) (m:Nat) (left:Int),x.hgt≤m→0≤left→left≤1000→Ok (FR_6 m x left) (·=min (x.hgt:Int) (left+1)):=by
 refine GTerm.ind fun x ih m left hm h0 h1=>?_
 cases m with
 | zero=>have:=hgt_pos x;omega
 | succ m =>
  have hp:=hgt_pos x
  simp only [FR_6]
  refine Ok.ite (fun c=>?_) fun c=>?_
  ·have c:=of_decide_eq_true c
   exact Ok.ret (by show _=min _ _;omega)
  ·have c:=of_decide_eq_false c
   refine Ok.bind (Ok.foldI (all:=x.Kids) (Q:=fun o=>o=min (GTerm.hgts x.Kids:Int) left) (fun pre s=>s=min (GTerm.hgts pre:Int) left) x.Kids [] 0 0 rfl rfl (by simp only [GTerm.hgts];omega) (fun pre k r s hw hs=>?_) fun s hs=>hs) fun o ho=>?_
   ·have hk:=mem_at hw
    refine Ok.chk (in64_s (by omega) (by omega)) (Ok.bind (ih k hk m (left - 1) (by have:=kid_hgt hk;omega) (by omega) (by omega)) fun y hy=>Ok.ret ?_)
    subst hy hs
    rw [hgts_append];simp only [GTerm.hgts];omega
   ·subst ho
    refine Ok.chk (in64_s (by omega) (by omega)) (Ok.ret ?_)
    rw [hgt_eq];omega
theorem depth_eq (x:GTerm):F_6 x 20=some (min (x.hgt:Int) 21):=lim_of ⟨x.hgt,fun m hm=>(depth_ok x m 20 hm (by omega) (by omega)).eq⟩
theorem contains_go {α:Type} {body:Int→α→Unit→Option (Fl Unit Int)} (p:α→Prop) [DecidablePred p]:∀(xs:List α) (k:Int),0≤k→(∀k x,x∈xs→body k x ()=some (if p x then .ex k else .nx ())) →
  ∃o,forL body xs k ()=some o∧((∃x∈xs,p x)→∃r,o=.ex r∧0≤r)∧((∀x∈xs,¬p x)→o=.nx ())
 | [],k,hk,h=>⟨.nx (),rfl,fun ⟨x,hx,_⟩=>by simp at hx,fun _=>rfl⟩
 | x::r,k,hk,h=>by
  simp only [forL,h k x (by simp)]
  by_cases c:p x
  ·simp only [if_pos c,Option.bind_some,Fl_ex]
   exact ⟨_,rfl,fun _=>⟨k,rfl,hk⟩,fun hn=>absurd c (hn x (by simp))⟩
  ·simp only [if_neg c,Option.bind_some,Fl_nx]
   obtain ⟨o,h1,h2,h3⟩:=contains_go p r (k+1) (by omega) fun k y hy=>h k y (by simp [hy])
   refine ⟨o,h1,fun ⟨y,hy,hp⟩=>?_,fun hn=>h3 fun y hy=>hn y (by simp [hy])⟩
   rcases List.mem_cons.1 hy with rfl|hy
   ·exact absurd hp c
   ·exact h2 ⟨y,hy,hp⟩
open Classical in
theorem contains_b {α:Type} {body:Int→α→Unit→Option (Fl Unit Int)} (p:α→Prop) (xs:List α) [Decidable (∃x∈xs,p x)] (h:∀k x,x∈xs→body k x ()=some (if p x then .ex k else .nx ())) :
  (((forL body xs 0 ()).bind fun o=>o.elim (fun _=>some (-1)) fun r=>some r).bind fun y=>some (decide (0≤y)))=some (decide (∃x∈xs,p x)):=by
 obtain ⟨o,h1,h2,h3⟩:=contains_go p xs 0 (Int.le_refl 0) h
 rw [h1]
 by_cases c:∃x∈xs,p x
 ·obtain ⟨r,rfl,hr⟩:=h2 c
  simp only [Option.bind_some,Fl_ex,decide_eq_true hr,decide_eq_true c]
 ·have:=h3 fun x hx hp=>c ⟨x,hx,hp⟩
  subst this
  simp only [Option.bind_some,Fl_nx,decide_eq_false c]
  rfl
def qP (s:Str):Prop:=(∀c∈s,33≤c.toNat∧c.toNat≤126∧c.toNat≠34)∧1≤s.length∧s.length≤40
def okN (x:GTerm):Prop :=
 ((x.Op=1∨x.Op=2∨x.Op=3)∧qP x.Text∧x.Number=0∧x.Print=0∧x.Kids=[]) ∨
 ((x.Op=4∨x.Op=5∨x.Op=6∨x.Op=8)∧x.Text=[]∧0≤x.Number∧x.Number≤1099511627776∧x.Print=0∧x.Kids=[]) ∨
 (x.Op=7∧x.Text=[]∧x.Number=0∧x.Kids=[]) ∨
 ((x.Op=9∨x.Op=10∨x.Op=11)∧x.Text=[]∧x.Number=0∧x.Print=0∧((x.Op=9∧x.Kids.length=1)∨(x.Op≠9∧2≤x.Kids.length)))
inductive Rgt:GTerm→Prop
 | mk (x:GTerm) (h:okN x) (hk:∀k∈x.Kids,Rgt k):Rgt x
theorem Rgt.ok {x:GTerm} (h:Rgt x):okN x:=by cases h;assumption
theorem Rgt.kid {x k:GTerm} (h:Rgt x) (hk:k∈x.Kids):Rgt k:=by cases h with|mk _ _ h=>exact h k hk
open Classical in
theorem quot_eq (s:Str):F_u s=some (decide (qP s)):=by
 refine Ok.eq ?_
 unfold F_u
 refine Ok.bind (Ok.forI (all:=s) (Q:=Fl.elim (fun _=>∀c∈s,33≤c.toNat∧c.toNat≤126∧c.toNat≠34) fun r=>r=false∧¬qP s) (fun pre _=>∀c∈pre,33≤c.toNat∧c.toNat≤126∧c.toNat≠34) s [] 0 () rfl rfl (by simp) (fun pre c r _ hw hs=>?_) fun _ hs=>hs) fun o ho=>?_
 ·unfold F_1q
  refine Ok.grp (Ok.grp (Ok.ite (fun c1=>Ok.ret ⟨rfl,fun hq=>?_⟩) fun c1=>Ok.ret ?_))
  ·have:=hq.1 c (mem_at hw)
   simp only [Bool.or_eq_true,decide_eq_true_eq] at c1
   omega
  ·simp only [Bool.or_eq_false_iff,decide_eq_false_iff_not] at c1
   intro d hd
   rcases List.mem_append.1 hd with hd|hd
   ·exact hs d hd
   ·cases List.mem_singleton.1 hd
    omega
 ·cases o with
  | ex r =>
   obtain ⟨rfl,h⟩:=ho
   exact Ok.ret (decide_eq_false h).symm
  | nx u =>
   refine Ok.grp (Ok.ret ?_)
   rw [Bool.eq_iff_iff]
   simp only [Bool.and_eq_true,decide_eq_true_eq]
   exact ⟨fun h=>⟨ho,by omega,by omega⟩,fun h=>⟨by have:=h.2.1;omega,by have:=h.2.2;omega⟩⟩
theorem len0 {α:Type} {l:List α}:(l.length:Int)=0↔l=[]:=by
 rw [←List.length_eq_zero_iff];omega
open Classical in
theorem right_ok:∀(x:GTerm) (m:Nat),4*x.hgt≤m→Ok (FR_7 m x) (·=decide (Rgt x)):=by
 refine GTerm.ind fun x ih m hm=>?_
 have hp:=hgt_pos x
 obtain ⟨m,rfl⟩:∃n,m=n+4:=⟨m - 4,by omega⟩
 have hc:FR_h (m+3) x.Kids=some (decide (∃k∈x.Kids,¬Rgt k)):=by
  simp only [FR_h,FR_k]
  refine contains_b (fun k=>¬Rgt k) x.Kids fun k y hy=>?_
  have:=(ih y hy m (by have:=kid_hgt hy;omega)).eq
  simp only [FR_a,this,Option.bind_some]
  by_cases c:Rgt y<;>simp [c]
 simp only [FR_7]
 refine Ok.jn (P:=fun b=>b=decide (okN x)) ?_ fun y hy=>?_
 ·refine Ok.jn (P:=fun b=>b=decide (x.Op=1∨x.Op=2∨x.Op=3)) (Ok.ite (fun c=>Ok.ret (by simpa using .inl (of_decide_eq_true c))) fun c=>Ok.ite (fun c2=>Ok.ret (by simpa using .inr (.inl (of_decide_eq_true c2)))) fun c2=>Ok.ret (by simp at c c2;simp [c,c2])) fun b hb=>?_
  subst hb
  refine Ok.ite (fun c=>?_) fun c=>?_
  ·have c:=of_decide_eq_true c
   rw [quot_eq,Option.bind_some]
   refine Ok.grp (Ok.grp (Ok.grp (Ok.ret ?_)))
   rw [Bool.eq_iff_iff]
   simp only [Bool.and_eq_true,decide_eq_true_eq,len0]
   constructor
   ·rintro ⟨⟨⟨h1,h2⟩,h3⟩,h4⟩;exact .inl ⟨c,h1,h2,h3,h4⟩
   ·rintro (h|⟨h,_⟩|⟨h,_⟩|⟨h,_⟩)
    ·exact ⟨⟨⟨h.2.1,h.2.2.1⟩,h.2.2.2.1⟩,h.2.2.2.2⟩
    all_goals omega
  ·have c:=of_decide_eq_false c
   refine Ok.jn (P:=fun b=>b=decide (x.Op=4∨x.Op=5∨x.Op=6∨x.Op=8)) (Ok.ite (fun c=>Ok.ret (by simpa using .inl (of_decide_eq_true c))) fun c=>Ok.ite (fun c2=>Ok.ret (by simpa using .inr (.inl (of_decide_eq_true c2)))) fun c2=>Ok.ite (fun c3=>Ok.ret (by simpa using .inr (.inr (.inl (of_decide_eq_true c3))))) fun c3=>Ok.ret (by simp at c c2 c3;simp [c,c2,c3])) fun b hb=>?_
   subst hb
   refine Ok.ite (fun c1=>?_) fun c1=>?_
   ·have c1:=of_decide_eq_true c1
    refine Ok.grp (Ok.grp (Ok.grp (Ok.grp (Ok.ret ?_))))
    rw [Bool.eq_iff_iff]
    simp only [Bool.and_eq_true,decide_eq_true_eq,len0]
    constructor
    ·rintro ⟨⟨⟨⟨h1,h2⟩,h3⟩,h4⟩,h5⟩;exact .inr (.inl ⟨c1,h1,h2,h3,h4,h5⟩)
    ·rintro (⟨h,_⟩|h|⟨h,_⟩|⟨h,_⟩)
     ·omega
     ·exact ⟨⟨⟨⟨h.2.1,h.2.2.1⟩,h.2.2.2.1⟩,h.2.2.2.2.1⟩,h.2.2.2.2.2⟩
     all_goals omega
   ·have c1:=of_decide_eq_false c1
    refine Ok.ite (fun c2=>?_) fun c2=>?_
    ·have c2:=of_decide_eq_true c2
     refine Ok.grp (Ok.grp (Ok.ret ?_))
     rw [Bool.eq_iff_iff]
     simp only [Bool.and_eq_true,decide_eq_true_eq,len0]
     constructor
     ·rintro ⟨⟨h1,h2⟩,h3⟩;exact .inr (.inr (.inl ⟨c2,h1,h2,h3⟩))
     ·rintro (⟨h,_⟩|⟨h,_⟩|h|⟨h,_⟩)
      ·omega
      ·omega
      ·exact ⟨⟨h.2.1,h.2.2.1⟩,h.2.2.2⟩
      ·omega
    ·have c2:=of_decide_eq_false c2
     refine Ok.jn (P:=fun b=>b=decide (x.Op=9∨x.Op=10∨x.Op=11)) (Ok.ite (fun c=>Ok.ret (by simpa using .inl (of_decide_eq_true c))) fun c=>Ok.ite (fun c2=>Ok.ret (by simpa using .inr (.inl (of_decide_eq_true c2)))) fun c2=>Ok.ret (by simp at c c2;simp [c,c2])) fun b hb=>?_
     subst hb
     refine Ok.ite (fun c3=>?_) fun c3=>?_
     ·have c3:=of_decide_eq_true c3
      refine Ok.grp (Ok.grp (Ok.grp (Ok.ret ?_)))
      rw [Bool.eq_iff_iff]
      simp only [Bool.and_eq_true,Bool.or_eq_true,Bool.not_eq_true',decide_eq_true_eq,decide_eq_false_iff_not]
      constructor
      ·rintro ⟨⟨⟨h1,h2⟩,h3⟩,h4⟩
       refine .inr (.inr (.inr ⟨c3,h1,h2,h3,?_⟩))
       rcases h4 with h4|h4
       ·exact .inl ⟨h4.1,by omega⟩
       ·exact .inr ⟨h4.1,by omega⟩
      ·rintro (⟨h,_⟩|⟨h,_⟩|⟨h,_⟩|h)
       ·omega
       ·omega
       ·omega
       ·refine ⟨⟨⟨h.2.1,h.2.2.1⟩,h.2.2.2.1⟩,?_⟩
        rcases h.2.2.2.2 with h4|h4
        ·exact .inl ⟨h4.1,by omega⟩
        ·exact .inr ⟨h4.1,by omega⟩
     ·have c3:=of_decide_eq_false c3
      refine Ok.ret (decide_eq_false ?_).symm
      rintro (⟨h,_⟩|⟨h,_⟩|⟨h,_⟩|⟨h,_⟩)<;>omega
 ·subst hy
  refine Ok.jn (P:=fun b=>b=decide (Rgt x)) (Ok.ite (fun c=>?_) fun c=>?_) fun b hb=>Ok.ret hb
  ·have c:=of_decide_eq_true c
   rw [hc]
   refine Ok.ret ?_
   rw [Bool.eq_iff_iff]
   simp only [Bool.not_eq_true',decide_eq_false_iff_not,decide_eq_true_eq]
   exact ⟨fun h=>.mk x c fun k hk=>Classical.byContradiction fun hn=>h ⟨k,hk,hn⟩,fun h ⟨k,hk,hn⟩=>hn (h.kid hk)⟩
  ·have c:=of_decide_eq_false c
   exact Ok.ret (decide_eq_false fun h=>c h.ok).symm
open Classical in
theorem right_eq (x:GTerm):F_7 x=some (decide (Rgt x)):=lim_of ⟨4*x.hgt,fun m hm=>(right_ok x m hm).eq⟩
structure PV (x:GTerm):Prop where
 cnt:x.cnt≤60
 hgt:x.hgt≤20
 rgt:Rgt x
open Classical in
noncomputable def GTerm.err (x:GTerm):Int:=if 60<x.cnt then 3 else if 20<x.hgt then 9 else if ¬Rgt x then 1 else 0
open Classical in
theorem term_eq (x:GTerm):F_n x=some x.err:=by
 refine Ok.eq ?_
 unfold F_n GTerm.err
 rw [terms_eq,Option.bind_some]
 refine Ok.ite (fun c=>Ok.ret (by rw [if_pos (by have:=of_decide_eq_true c;omega)])) fun c=>?_
 have c:=of_decide_eq_false c
 rw [if_neg (by omega),depth_eq,Option.bind_some]
 refine Ok.ite (fun c=>Ok.ret (by rw [if_pos (by have:=of_decide_eq_true c;omega)])) fun c=>?_
 have c:=of_decide_eq_false c
 rw [if_neg (by omega),right_eq,Option.bind_some]
 refine Ok.ite (fun c=>Ok.ret (by rw [if_pos (by simpa using c)])) fun c=>Ok.ret (by rw [if_neg (by simpa using c)])
theorem err_zero {x:GTerm}:x.err=0↔PV x:=by
 classical
 unfold GTerm.err
 constructor
 ·intro h
  split at h
  ·omega
  ·split at h
   ·omega
   ·split at h
    ·omega
    ·rename_i h1 h2 h3
     exact ⟨by omega,by omega,Classical.byContradiction h3⟩
 ·rintro ⟨h1,h2,h3⟩
  rw [if_neg (by omega),if_neg (by omega),if_neg (fun h=>h h3)]
end Go.Ab
namespace Go.Ab
open Go.Proofs
def leafH (ks:List GKind) (f:GFinding) (s:GSpot) (o:Int) (t:Str) (n p:Int):Bool :=
 if o=1 then decide (0≤f.Kind∧f.Kind<ks.length∧(ks.getD f.Kind.toNat default).Name=t)
 else if o=2 then decide (s.Place.Path.take t.length=t)
 else if o=3 then decide (s.Place.Path.drop (s.Place.Path.length - t.length)=t)
 else if o=4 then decide (s.Place.Source=n)
 else if o=5 then decide (n≤s.Layers.length)
 else if o=6 then decide (s.From≤s.To∧IntKind.wrap .u64 n≤IntKind.wrap .u64 (IntKind.wrap .u64 s.To - IntKind.wrap .u64 s.From))
 else if o=7 then decide (f.Fingerprint=p)
 else decide (s.Place.Time<n)
mutual
def hold (ks:List GKind) (f:GFinding) (s:GSpot):GTerm→Bool
 | ⟨o,t,n,p,k⟩=>if o=9 then !holdA ks f s k else if o=10 then holdA ks f s k else if o=11 then holdO ks f s k else leafH ks f s o t n p
def holdA (ks:List GKind) (f:GFinding) (s:GSpot):List GTerm→Bool
 | []=>true
 | a::r=>hold ks f s a&&holdA ks f s r
def holdO (ks:List GKind) (f:GFinding) (s:GSpot):List GTerm→Bool
 | []=>false
 | a::r=>hold ks f s a||holdO ks f s r
end
theorem hold_eq (ks:List GKind) (f:GFinding) (s:GSpot) (x:GTerm):hold ks f s x=if x.Op=9 then !holdA ks f s x.Kids else if x.Op=10 then holdA ks f s x.Kids else if x.Op=11 then holdO ks f s x.Kids else leafH ks f s x.Op x.Text x.Number x.Print:=by
 cases x;simp only [hold]
theorem holdA_iff {ks:List GKind} {f:GFinding} {s:GSpot}:∀{l:List GTerm},holdA ks f s l=true↔∀k∈l,hold ks f s k=true
 | []=>by simp [holdA]
 | a::r=>by simp [holdA,holdA_iff (l:=r)]
theorem holdO_iff {ks:List GKind} {f:GFinding} {s:GSpot}:∀{l:List GTerm},holdO ks f s l=true↔∃k∈l,hold ks f s k=true
 | []=>by simp [holdO]
 | a::r=>by simp [holdO,holdO_iff (l:=r)]
theorem pre_eq (s p:Str):F_o s p=some (decide (s.take p.length=p)):=by
 refine Ok.eq ?_
 unfold F_o F_v
 refine Ok.bind (Ok.jn (P:=fun b=>b=decide (s.take p.length=p)) (Ok.ite (fun c=>?_) fun c=>?_) fun b hb=>Ok.ret hb) fun y hy=>Ok.ret hy
 ·have c:=of_decide_eq_true c
  exact Ok.chk (inc_iff.2 ⟨by omega,by omega,by omega⟩) (Ok.ret (by rw [Int.toNat_natCast]))
 ·have c:=of_decide_eq_false c
  refine Ok.ret (decide_eq_false fun h=>?_).symm
  have:=congrArg List.length h
  rw [List.length_take] at this
  omega
theorem suf_eq {s p:Str} (hs:s.length≤1000000):F_x s p=some (decide (s.drop (s.length - p.length)=p)):=by
 refine Ok.eq ?_
 unfold F_x F_w
 refine Ok.bind (Ok.jn (P:=fun b=>b=decide (s.drop (s.length - p.length)=p)) (Ok.ite (fun c=>?_) fun c=>?_) fun b hb=>Ok.ret hb) fun y hy=>Ok.ret hy
 ·have c:=of_decide_eq_true c
  have e:((s.length:Int) - (p.length:Int)).toNat=s.length - p.length:=by omega
  exact Ok.chk (in64_s (by omega) (by omega)) (Ok.chk (inc_iff.2 ⟨by omega,by omega,by omega⟩) (Ok.ret (by rw [e])))
 ·have c:=of_decide_eq_false c
  refine Ok.ret (decide_eq_false fun h=>?_).symm
  have:=congrArg List.length h
  rw [List.length_drop] at this
  omega
open Classical in
theorem holds_ok (ks:List GKind) (f:GFinding) (s:GSpot) (hs:s.Place.Path.length≤1000000):∀(x:GTerm) (m:Nat),5*x.hgt≤m→Rgt x→Ok (FR_3 m x ks f s) (·=hold ks f s x):=by
 refine GTerm.ind fun x ih m hm hx=>?_
 have hp:=hgt_pos x
 obtain ⟨m,rfl⟩:∃n,m=n+5:=⟨m - 5,by omega⟩
 have h1:∀k∈x.Kids,FR_2 (m+1) k ks f s=some (hold ks f s k):=fun k hk=>by
  rw [FR_2,(ih k hk m (by have:=kid_hgt hk;omega) (hx.kid hk)).eq];rfl
 have h1':∀k∈x.Kids,FR_2 (m+2) k ks f s=some (hold ks f s k):=fun k hk=>by
  rw [FR_2,(ih k hk (m+1) (by have:=kid_hgt hk;omega) (hx.kid hk)).eq];rfl
 have h1'':∀k∈x.Kids,FR_2 (m+4) k ks f s=some (hold ks f s k):=fun k hk=>by
  rw [FR_2,(ih k hk (m+3) (by have:=kid_hgt hk;omega) (hx.kid hk)).eq];rfl
 rw [hold_eq,FR_3]
 by_cases c9:x.Op=9
 ·rw [if_pos c9]
  have hk:∃k,x.Kids=[k]:=by
   rcases hx.ok with ⟨h,_⟩|⟨h,_⟩|⟨h,_⟩|⟨_,_,_,_,h|h⟩
   ·omega
   ·omega
   ·omega
   ·exact List.length_eq_one_iff.1 h.2
   ·exact absurd c9 h.1
  obtain ⟨k,hk⟩:=hk
  have e:x.Kids.getD 0 default=k:=by rw [hk];rfl
  simp only [c9]
  refine Ok.ite (fun f=>by cases f) fun _=>Ok.ite (fun f=>by cases f) fun _=>Ok.ite (fun f=>by cases f) fun _=>Ok.ite (fun f=>by cases f) fun _=>Ok.ite (fun f=>by cases f) fun _=>Ok.ite (fun f=>by cases f) fun _=>Ok.ite (fun f=>by cases f) fun _=>Ok.ite (fun f=>by cases f) fun _=>Ok.ite (fun _=>?_) fun f=>by cases f
  refine Ok.chk (inb_iff.2 ⟨by omega,by rw [hk];simp⟩) ?_
  rw [e,h1'' k (by rw [hk];simp)]
  refine Ok.ret ?_
  rw [hk];simp [holdA]
 ·rw [if_neg c9]
  by_cases c10:x.Op=10
  ·rw [if_pos c10]
   have hc:FR_b (m+4) x.Kids ks f s=some (decide (∃k∈x.Kids,hold ks f s k=false)):=by
    simp only [FR_b,FR_f]
    refine contains_b (fun k=>hold ks f s k=false) x.Kids fun k y hy=>?_
    rw [FR_e,h1 y hy]
    cases hold ks f s y<;>simp
   simp only [c10]
   refine Ok.ite (fun f=>by cases f) fun _=>Ok.ite (fun f=>by cases f) fun _=>Ok.ite (fun f=>by cases f) fun _=>Ok.ite (fun f=>by cases f) fun _=>Ok.ite (fun f=>by cases f) fun _=>Ok.ite (fun f=>by cases f) fun _=>Ok.ite (fun f=>by cases f) fun _=>Ok.ite (fun f=>by cases f) fun _=>Ok.ite (fun f=>by cases f) fun _=>Ok.ite (fun _=>?_) fun f=>by cases f
   rw [hc]
   refine Ok.ret ?_
   rw [Bool.eq_iff_iff,holdA_iff]
   simp only [Bool.not_eq_true',decide_eq_false_iff_not]
   exact ⟨fun h k hk=>by
    cases e:hold ks f s k with
    | true=>rfl
    | false=>exact absurd ⟨k,hk,e⟩ h,fun h ⟨k,hk,e⟩=>by rw [h k hk] at e;cases e⟩
  ·rw [if_neg c10]
   by_cases c11:x.Op=11
   ·rw [if_pos c11]
    have hc:FR_c (m+4) x.Kids ks f s=some (decide (∃k∈x.Kids,hold ks f s k=true)):=by
     simp only [FR_c,FR_g]
     refine contains_b (fun k=>hold ks f s k=true) x.Kids fun k y hy=>?_
     rw [h1' y hy]
     cases hold ks f s y<;>simp
    simp only [c11]
    refine Ok.ite (fun f=>by cases f) fun _=>Ok.ite (fun f=>by cases f) fun _=>Ok.ite (fun f=>by cases f) fun _=>Ok.ite (fun f=>by cases f) fun _=>Ok.ite (fun f=>by cases f) fun _=>Ok.ite (fun f=>by cases f) fun _=>Ok.ite (fun f=>by cases f) fun _=>Ok.ite (fun f=>by cases f) fun _=>Ok.ite (fun f=>by cases f) fun _=>Ok.ite (fun f=>by cases f) fun _=>?_
    rw [hc]
    refine Ok.ret ?_
    rw [Bool.eq_iff_iff,holdO_iff]
    simp only [decide_eq_true_eq]
   ·rw [if_neg c11]
    have ho:x.Op=1∨x.Op=2∨x.Op=3∨x.Op=4∨x.Op=5∨x.Op=6∨x.Op=7∨x.Op=8:=by
     rcases hx.ok with ⟨h,_⟩|⟨h,_⟩|⟨h,_⟩|⟨h,_⟩<;>omega
    unfold leafH
    refine Ok.ite (fun c=>?_) fun c=>?_
    ·rw [if_pos (of_decide_eq_true c)]
     refine Ok.ite (fun c1=>Ok.ite (fun c2=>Ok.chk (inb_iff.2 ⟨of_decide_eq_true c1,of_decide_eq_true c2⟩) (Ok.ret ?_)) fun c2=>Ok.ret ?_) fun c1=>Ok.ret ?_
     ·exact decide_eq_decide.2 ⟨fun h=>⟨of_decide_eq_true c1,of_decide_eq_true c2,h⟩,fun h=>h.2.2⟩
     ·exact (decide_eq_false fun h=>(of_decide_eq_false c2) h.2.1).symm
     ·exact (decide_eq_false fun h=>(of_decide_eq_false c1) h.1).symm
    ·rw [if_neg (of_decide_eq_false c)]
     refine Ok.ite (fun c=>?_) fun c=>?_
     ·rw [if_pos (of_decide_eq_true c),pre_eq];exact Ok.ret rfl
     ·rw [if_neg (of_decide_eq_false c)]
      refine Ok.ite (fun c=>?_) fun c=>?_
      ·rw [if_pos (of_decide_eq_true c),suf_eq hs];exact Ok.ret rfl
      ·rw [if_neg (of_decide_eq_false c)]
       refine Ok.ite (fun c=>?_) fun c=>?_
       ·rw [if_pos (of_decide_eq_true c)];exact Ok.ret rfl
       ·rw [if_neg (of_decide_eq_false c)]
        refine Ok.ite (fun c=>?_) fun c=>?_
        ·rw [if_pos (of_decide_eq_true c)];exact Ok.ret rfl
        ·rw [if_neg (of_decide_eq_false c)]
         refine Ok.ite (fun c=>?_) fun c=>?_
         ·rw [if_pos (of_decide_eq_true c)]
          refine Ok.jn (P:=fun b=>b=decide (s.From≤s.To∧IntKind.wrap .u64 x.Number≤IntKind.wrap .u64 (IntKind.wrap .u64 s.To - IntKind.wrap .u64 s.From))) (Ok.ite (fun c1=>Ok.ret ?_) fun c1=>Ok.ret ?_) fun b hb=>Ok.ret hb
          ·exact decide_eq_decide.2 ⟨fun h=>⟨of_decide_eq_true c1,h⟩,fun h=>h.2⟩
          ·exact (decide_eq_false fun h=>(of_decide_eq_false c1) h.1).symm
         ·rw [if_neg (of_decide_eq_false c)]
          refine Ok.ite (fun c=>?_) fun c=>?_
          ·rw [if_pos (of_decide_eq_true c)];exact Ok.ret rfl
          ·rw [if_neg (of_decide_eq_false c)]
           have c:=of_decide_eq_false c
           refine Ok.ite (fun c=>Ok.ret rfl) fun c8=>?_
           have c8:=of_decide_eq_false c8
           simp only [decide_eq_false_iff_not] at *
           omega
theorem holds_eq {ks:List GKind} {f:GFinding} {s:GSpot} (hs:s.Place.Path.length≤1000000) {x:GTerm} (hx:Rgt x):F_3 x ks f s=some (hold ks f s x):=lim_of ⟨5*x.hgt,fun m hm=>(holds_ok ks f s hs x m hm hx).eq⟩
theorem Holds_eq {ks:List GKind} {f:GFinding} {i:Int} (h0:0≤i) (h1:i<f.Where.length) (hs:(f.Where.getD i.toNat default).Place.Path.length≤1000000) {x:GTerm} (hx:PV x):F_l x ks f i=some (hold ks f (f.Where.getD i.toNat default) x):=by
 refine Ok.eq ?_
 unfold F_l
 refine Ok.ite (fun _=>Ok.ite (fun _=>?_) fun c=>absurd h1 (of_decide_eq_false c)) fun c=>absurd h0 (of_decide_eq_false c)
 rw [term_eq,err_zero.2 hx,Option.bind_some]
 refine Ok.ite (fun _=>Ok.chk (inb_iff.2 ⟨h0,h1⟩) ?_) fun f=>by cases f
 rw [holds_eq hs hx.rgt]
 exact Ok.ret rfl
end Go.Ab
namespace Go.Ab
open Go.Proofs
theorem Le.loopL {σ ρ:Type} {f g:σ→Option (Fl σ ρ)} {s:σ} (h:∀s,Le (f s) (g s)):Le (Go.Ab.loop f s) (Go.Ab.loop g s):=fun r hr=>by
 obtain ⟨n,hn⟩:=loop_iter.1 hr
 exact loop_iter.2 ⟨n,Le.iter h n s r hn⟩
theorem Le.up {α:Type} {f:Nat→Option α} (h:∀n,Le (f n) (f (n+1))) {n m:Nat} (hm:n≤m):Le (f n) (f m):=by
 induction hm with
 | refl=>exact Le.refl
 | step _ ih=>exact fun r hr=>h _ r (ih r hr)
theorem Ok.lim {α:Type} {f:Nat→Option α} {Q:α→Prop} (h:∀n,Le (f n) (f (n+1))) (n:Nat) (hn:Ok (f n) Q):Ok (Go.Ab.lim f) Q:=by
 obtain ⟨y,e,hy⟩:=hn
 exact ⟨y,lim_of ⟨n,fun m hm=>Le.up h hm y e⟩,hy⟩
def TO (t:GTape):Prop:=0≤t.at_∧(t.L.length:Int)≤9223372036854775807
theorem nx_ok {t:GTape} {n:Int} (h:TO t) (hn:0<n):Ok (F_1 t n) fun y=>0≤y.1∧y.1<n∧TO y.2:=by
 unfold F_1
 refine Ok.ite (fun c=>Ok.ret ⟨Int.le_refl 0,hn,h⟩) fun c=>?_
 have c':t.at_<t.L.length:=by simpa using c
 have h1:=h.1;have h2:=h.2
 refine Ok.chk (inb_iff.2 ⟨h.1,c'⟩) (Ok.chk (in64_iff.2 ⟨by omega,by omega⟩) (Ok.chk (divs_iff.2 ⟨Int.emod_nonneg _ (by decide),hn⟩) (Ok.ret ⟨Int.emod_nonneg _ (by omega),Int.emod_lt_of_pos _ hn,?_,h2⟩)))
 show 0≤t.at_+1
 omega
theorem btw_ok {t:GTape} {a b:Int} (h:TO t) (h1:-100000≤a) (h2:a≤b) (h3:b≤100000):Ok (F_j t a b) fun y=>a≤y.1∧y.1≤b∧TO y.2:=by
 unfold F_j
 refine Ok.chk (in64_s (by omega) (by omega)) (Ok.chk (in64_s (by omega) (by omega)) (Ok.bind (nx_ok h (by omega)) fun y hy=>Ok.chk (in64_s (by omega) (by omega)) (Ok.ret ⟨?_,?_,hy.2.2⟩)))
 ·show a≤a+y.1;omega
 ·show a+y.1≤b;omega
theorem pow3_pos (d:Nat):(1:Int)≤3^d:=by
 induction d with
 | zero=>decide
 | succ d ih=>rw [Int.pow_succ];omega
theorem hgts_le {c:Nat}:∀{l:List GTerm},(∀k∈l,k.hgt≤c)→GTerm.hgts l≤c
 | [],_=>by simp [GTerm.hgts]
 | a::r,h=>by
  have h1:=h a (by simp)
  have h2:=hgts_le (l:=r) fun k hk=>h k (by simp [hk])
  simp only [GTerm.hgts];omega
theorem mterm_mono:∀n (t:GTape) (d:Int),Le (FR_0 n t d) (FR_0 (n+1) t d)
 | 0,t,d=>by rw [FR_0];exact Le.non
 | n+1,t,d=>by
  have ih:=mterm_mono n
  rw [FR_0,FR_0]
  (repeat' (with_reducible first|exact Le.refl|assumption|exact ih _ _|(refine Le.bind ?_ fun _=>?_)|(refine Le.jn ?_ fun _=>?_)|(refine Le.grp fun _=>?_)|(refine Le.chk ?_)|(refine Le.cond ?_ ?_)|(refine Le.fl (fun _=>?_) fun _=>?_)|(refine Le.sum (fun _=>?_) fun _=>?_)|(refine Le.loopL fun _=>?_)))
structure gt (d:Nat) (x:GTerm):Prop where
 rgt:Rgt x
 hgt:x.hgt≤d+1
 cnt:2*x.cnt+1≤3^(d+1)
theorem gt.up {d:Nat} {x:GTerm} (h:gt d x):gt (d+1) x:=by
 obtain ⟨h1,h2,h3⟩:=h
 have:=pow3_pos (d+1)
 refine ⟨h1,by omega,?_⟩
 rw [Int.pow_succ 3 (d+1)];omega
theorem gt.lift {x:GTerm}:∀{d:Nat},gt 0 x→gt d x
 | 0,h=>h
 | d+1,h=>(gt.lift h).up
theorem gt_leaf {x:GTerm} (hk:x.Kids=[]) (h:okN x):gt 0 x:=by
 refine ⟨.mk x h (by rw [hk];simp),?_,?_⟩
 ·rw [hgt_eq,hk];simp [GTerm.hgts]
 ·rw [cnt_eq,hk];simp [GTerm.cnts]
theorem gt_node {e:Nat} {op:Int} {kids:List GTerm} (ho:okN (GTerm.mk op [] 0 0 kids)) (hk:∀k∈kids,gt e k) (hl:kids.length≤3):gt (e+1) (GTerm.mk op [] 0 0 kids):=by
 have p3:=pow3_pos (e+1)
 refine ⟨.mk _ ho fun k h=>(hk k h).rgt,?_,?_⟩
 ·rw [hgt_eq]
  have:=hgts_le (c:=e+1) (l:=kids) fun k h=>(hk k h).hgt
  show GTerm.hgts kids+1≤_;omega
 ·rw [cnt_eq]
  show 2*(GTerm.cnts kids+1)+1≤_
  have h3:∀l:List GTerm,(∀k∈l,gt e k)→l.length≤3→2*GTerm.cnts l≤3*(3^(e+1) - 1):=by
   intro l h hl
   match l,h,hl with
   | [],_,_=>simp only [GTerm.cnts];omega
   | [a],h,_=>have h1:=(h a (by simp)).cnt;simp only [GTerm.cnts];omega
   | [a,b],h,_=>have h1:=(h a (by simp)).cnt;have h2:=(h b (by simp)).cnt;simp only [GTerm.cnts];omega
   | [a,b,c],h,_=>have h1:=(h a (by simp)).cnt;have h2:=(h b (by simp)).cnt;have h3:=(h c (by simp)).cnt;simp only [GTerm.cnts];omega
   | _::_::_::_::_,_,hl=>simp only [List.length_cons] at hl;omega
  have:=h3 kids hk hl
  rw [Int.pow_succ 3 (e+1)];omega
instance (s:Str):Decidable (qP s):=inferInstanceAs (Decidable (_∧_))
theorem kinds4:∀i,i<4→qP ([[107,105,110,100,48],[107,105,110,100,49],[112,108,97,105,110,48],[110,111,110,101]].getD i default):=by
 intro i hi
 have:i=0∨i=1∨i=2∨i=3:=by omega
 rcases this with rfl|rfl|rfl|rfl<;>decide
theorem paths6:∀i,i<6→qP ([[97],[49,58],[102,48],[100,111,99,115,47],[33,105,110],[50]].getD i default):=by
 intro i hi
 have:i=0∨i=1∨i=2∨i=3∨i=4∨i=5:=by omega
 rcases this with rfl|rfl|rfl|rfl|rfl|rfl<;>decide
theorem wrp {z:Int} (h0:0≤z) (h1:z≤1000000):IntKind.wrap .u64 z=z:=by
 rw [IntKind.wrap_u64];omega
theorem mterm_ok:∀(d m:Nat) (t:GTape),d<m→TO t→d≤100→Ok (FR_0 m t ((d:Int)+1)) fun y=>gt d y.1∧TO y.2:=by
 intro d
 induction d with
 | zero =>
  intro m t hm ht _
  obtain ⟨m,rfl⟩:∃n,m=n+1:=⟨m - 1,by omega⟩
  rw [FR_0]
  refine Ok.bind (btw_ok ht (by omega) (by omega) (by omega)) fun y hy=>?_
  refine Ok.jn (P:=fun j=>1≤j∧j≤8) (Ok.grp (Ok.ite (fun c=>?_) fun c=>Ok.ret ?_)) fun j hj=>?_
  ·simp only [Bool.and_eq_true,decide_eq_true_eq] at c
   exact Ok.chk (in64_s (by omega) (by omega)) (Ok.ret ⟨by omega,by omega⟩)
  ·simp at c;omega
  ·exact leafs hy.2.2 hj.1 hj.2 (fun _=>gt.lift) (by omega)
 | succ e ih =>
  intro m t hm ht he
  obtain ⟨m,rfl⟩:∃n,m=n+1:=⟨m - 1,by omega⟩
  have e1:((e+1:Nat):Int)+1 - 1=(e:Int)+1:=by omega
  have hrec:∀t,TO t→Ok (FR_0 m t ((e:Int)+1)) fun y=>gt e y.1∧TO y.2:=fun t h=>ih m t (by omega) h (by omega)
  rw [FR_0]
  simp only [e1]
  refine Ok.bind (btw_ok ht (by omega) (by omega) (by omega)) fun y hy=>?_
  refine Ok.jn (P:=fun j=>1≤j∧j≤11) (Ok.grp (Ok.ite (fun c=>?_) fun c=>Ok.ret ⟨hy.1,hy.2.1⟩)) fun j hj=>?_
  ·exact Ok.chk (in64_s (by omega) (by omega)) (Ok.ret ⟨by simp only [Bool.and_eq_true,decide_eq_true_eq] at c;omega,by omega⟩)
  ·by_cases c9:j=9
   ·subst c9
    refine Ok.ite (fun f=>by cases f) fun _=>Ok.jn (P:=fun b=>b=false) (Ok.ite (fun f=>by cases f) fun _=>Ok.ret rfl) fun b hb=>?_
    subst hb
    refine Ok.ite (fun f=>by cases f) fun _=>Ok.ite (fun f=>by cases f) fun _=>Ok.ite (fun _=>?_) fun f=>by cases f
    refine Ok.chk (in64_s (by omega) (by omega)) (Ok.bind (hrec _ hy.2.2) fun z hz=>Ok.ret ⟨?_,hz.2⟩)
    exact gt_node (.inr (.inr (.inr ⟨.inl rfl,rfl,rfl,rfl,.inl ⟨rfl,rfl⟩⟩))) (by simp;exact hz.1) (by simp)
   ·by_cases c10:j=10∨j=11
    ·have n1:decide (j=1)=false:=decide_eq_false (by omega)
     have n2:decide (j=2)=false:=decide_eq_false (by omega)
     have n3:decide (j=3)=false:=decide_eq_false (by omega)
     have n7:decide (j=7)=false:=decide_eq_false (by omega)
     have n9:decide (j=9)=false:=decide_eq_false c9
     rw [n1,n2,n3,n7,n9]
     refine Ok.ite (fun f=>by cases f) fun _=>Ok.jn (P:=fun b=>b=false) (Ok.ite (fun f=>by cases f) fun _=>Ok.ret rfl) fun b hb=>?_
     subst hb
     refine Ok.ite (fun f=>by cases f) fun _=>Ok.ite (fun f=>by cases f) fun _=>Ok.ite (fun f=>by cases f) fun _=>?_
     refine Ok.jn (P:=fun b=>b=true) (Ok.ite (fun _=>Ok.ret rfl) fun f=>Ok.ret (decide_eq_true (by have:=of_decide_eq_false f;omega))) fun b hb=>?_
     subst hb
     refine Ok.ite (fun _=>?_) fun f=>by cases f
     refine Ok.bind (btw_ok hy.2.2 (by omega) (by omega) (by omega)) fun n hn=>?_
     refine Ok.bind (Ok.loop (Q:=fun r:Int×List GTerm×GTape=>r.1=j∧(r.2.1.length:Int)=n.1∧(∀k∈r.2.1,gt e k)∧TO r.2.2) (fun x:Int×Int×List GTerm×GTape=>x.2.1=j∧0≤x.1∧x.1+x.2.2.1.length=n.1∧(∀k∈x.2.2.1,gt e k)∧TO x.2.2.2) (fun x=>x.1.toNat) (fun x hx=>?_) _ ⟨rfl,by omega,by simp,by simp,hn.2.2⟩) fun r hr=>Ok.ret ⟨?_,hr.2.2.2⟩
     ·obtain ⟨a,op,kids,t3⟩:=x
      obtain ⟨h1,h2,h3,h4,h5⟩:=hx
      dsimp only at h1 h2 h3 h4 h5
      subst h1
      refine Ok.ite (fun c=>?_) fun c=>?_
      ·have c:0<a:=of_decide_eq_true c
       refine Ok.chk (in64_s (by omega) (by omega)) (Ok.bind (hrec _ h5) fun z hz=>?_)
       refine Ok.chk (room_s (by simp;omega)) (Ok.chk (in64_s (by omega) (by omega)) (Ok.ret ⟨⟨rfl,by dsimp only;omega,by dsimp only;simp;omega,fun k hk=>?_,hz.2⟩,by dsimp only;omega⟩))
       rcases List.mem_append.1 hk with hk|hk
       ·exact h4 k hk
       ·cases List.mem_singleton.1 hk;exact hz.1
      ·have c:¬0<a:=of_decide_eq_false c
       exact Ok.ret ⟨rfl,by dsimp only;omega,h4,h5⟩
     ·obtain ⟨r1,r2,r3,r4⟩:=hr
      rw [r1]
      exact gt_node (.inr (.inr (.inr ⟨.inr c10,rfl,rfl,rfl,.inr ⟨by show j≠9;omega,by show 2≤r.2.1.length;omega⟩⟩))) r3 (by omega)
    ·exact leafs hy.2.2 hj.1 (by omega) (fun _=>gt.lift) (by omega)
where
 leafs {m d:Nat} {t:GTape} {j dd:Int} (ht:TO t) (h1:1≤j) (h2:j≤8) (lift:∀x,gt 0 x→gt d x) (hd:0≤dd):Ok (bif decide (j=1) then (F_1 t 4).bind fun y27=>chk (inb y27.1 [[107,105,110,100,48],[107,105,110,100,49],[112,108,97,105,110,48],[110,111,110,101]].length) (some ((GTerm.mk j ([[107,105,110,100,48],[107,105,110,100,49],[112,108,97,105,110,48],[110,111,110,101]].getD ((y27.1).toNat) default) 0 0 []),y27.2)) else jn (α:=Bool) (bif decide (j=2) then some true else some (decide (j=3))) fun j28=>bif j28 then (F_1 t 6).bind fun y29=>chk (inb y29.1 [[97],[49,58],[102,48],[100,111,99,115,47],[33,105,110],[50]].length) (some ((GTerm.mk j ([[97],[49,58],[102,48],[100,111,99,115,47],[33,105,110],[50]].getD ((y29.1).toNat) default) 0 0 []),y29.2)) else bif decide (j=7) then (F_1 t 4).bind fun y30=>some ((GTerm.mk j [] 0 (IntKind.wrap .u64 y30.1) []),y30.2) else bif decide (j=9) then chk (in64 dd) ((FR_0 m t dd).bind fun y31=>some ((GTerm.mk j [] 0 0 [y31.1]),y31.2)) else jn (α:=Bool) (bif decide (j=10) then some true else some (decide (j=11))) fun j32=>bif j32 then (F_j t 2 3).bind fun y34=>(loop (fun (x41:Int×Int×(List GTerm)×GTape)=>(bif decide (0<x41.1) then chk (in64 dd) ((FR_0 m x41.2.2.2 dd).bind fun y45=>chk (room (x41.2.2.1.length+[y45.1].length) 64) (chk (in64 (x41.1 - 1)) (some (.nx ((x41.1 - 1),x41.2.1,(x41.2.2.1++[y45.1]),y45.2))))) else some (.ex (x41.2.1,x41.2.2.1,x41.2.2.2)):Option (Fl (Int×Int×(List GTerm)×GTape) (Int×(List GTerm)×GTape)))) (y34.1,j,[],y34.2)).bind fun r46=>some ((GTerm.mk r46.1 [] 0 0 r46.2.1),r46.2.2) else (F_1 t 8).bind fun y47=>some ((GTerm.mk j [] y47.1 0 []),y47.2)) fun y=>gt d y.1∧TO y.2:=by
  refine Ok.ite (fun c=>Ok.bind (nx_ok ht (by omega)) fun y hy=>Ok.chk (inb_iff.2 ⟨hy.1,hy.2.1⟩) (Ok.ret ⟨lift _ (gt_leaf rfl (.inl ⟨.inl (of_decide_eq_true c),kinds4 _ (by have:=hy.1;have:=hy.2.1;omega),rfl,rfl,rfl⟩)),hy.2.2⟩)) fun c1=>?_
  have c1:=of_decide_eq_false c1
  refine Ok.jn (P:=fun b=>b=decide (j=2∨j=3)) (Ok.ite (fun c=>Ok.ret (decide_eq_true (.inl (of_decide_eq_true c))).symm) fun c=>Ok.ret ?_) fun b hb=>?_
  ·have c:=of_decide_eq_false c
   exact decide_eq_decide.2 ⟨fun h=>.inr h,fun h=>by omega⟩
  ·subst hb
   refine Ok.ite (fun c=>Ok.bind (nx_ok ht (by omega)) fun y hy=>Ok.chk (inb_iff.2 ⟨hy.1,hy.2.1⟩) (Ok.ret ⟨lift _ (gt_leaf rfl (.inl ⟨.inr (of_decide_eq_true c),paths6 _ (by have:=hy.1;have:=hy.2.1;omega),rfl,rfl,rfl⟩)),hy.2.2⟩)) fun c2=>?_
   have c2:=of_decide_eq_false c2
   refine Ok.ite (fun c=>Ok.bind (nx_ok ht (by omega)) fun y hy=>Ok.ret ⟨lift _ (gt_leaf rfl (.inr (.inr (.inl ⟨of_decide_eq_true c,rfl,rfl,rfl⟩)))),hy.2.2⟩) fun c7=>?_
   have c7:=of_decide_eq_false c7
   refine Ok.ite (fun c=>by have:=of_decide_eq_true c;omega) fun _=>?_
   refine Ok.jn (P:=fun b=>b=false) (Ok.ite (fun c=>by have:=of_decide_eq_true c;omega) fun _=>Ok.ret (decide_eq_false (by omega))) fun b hb=>?_
   subst hb
   refine Ok.ite (fun f=>by cases f) fun _=>Ok.bind (nx_ok ht (by omega)) fun y hy=>Ok.ret ⟨lift _ (gt_leaf rfl (.inr (.inl ⟨by show j=4∨j=5∨j=6∨j=8;omega,rfl,hy.1,by have:=hy.2.1;show y.1≤_;omega,rfl,rfl⟩))),hy.2.2⟩
theorem made_term {t:GTape} (d:Nat) (hd:d≤2) (h:TO t):Ok (F_0 t ((d:Int)+1)) fun y=>Rgt y.1∧y.1.cnt≤13∧y.1.hgt≤3∧TO y.2:=by
 refine Ok.mono (Ok.lim (f:=fun n=>FR_0 n t ((d:Int)+1)) (fun n=>mterm_mono n t _) (d+1) (mterm_ok d (d+1) t (by omega) h (by omega))) fun y hy=>⟨hy.1.rgt,?_,?_,hy.2⟩
 ·have h3:=hy.1.cnt
  have:d=0∨d=1∨d=2:=by omega
  rcases this with rfl|rfl|rfl
  ·have e3:(3:Int)^(0+1)=3:=by decide
   omega
  ·have e3:(3:Int)^(1+1)=9:=by decide
   omega
  ·have e3:(3:Int)^(2+1)=27:=by decide
   omega
 ·have:=hy.1.hgt;omega
end Go.Ab
namespace Go.Ab
open Go.Proofs
def okS (k:Nat) (s:GSpot):Prop:=s.Place.Source=k∧s.Place.Path.length≤10∧s.Layers=[]
structure okF (i:Nat) (f:GFinding):Prop where
 k0:0≤f.Kind
 k1:f.Kind≤i+1
 p0:0≤f.Fingerprint
 p1:f.Fingerprint≤i+1
 w0:1≤f.Where.length
 w1:f.Where.length≤3
 w:∀k,k<f.Where.length→okS k (f.Where.getD k default)
structure okL (l:List GFinding):Prop where
 f:∀i,i<l.length→okF i (l.getD i default)
 s:∀i,i+1<l.length→(l.getD i default).Kind≤(l.getD (i+1) default).Kind∧(l.getD i default).Fingerprint<(l.getD (i+1) default).Fingerprint
theorem getD_snoc {α:Type} [Inhabited α] (l:List α) (a:α) (i:Nat) (h:i<l.length+1):(i<l.length∧(l++[a]).getD i default=l.getD i default)∨(i=l.length∧(l++[a]).getD i default=a):=by
 by_cases c:i<l.length
 ·exact .inl ⟨c,by simp [List.getElem?_append_left c]⟩
 ·obtain rfl:i=l.length:=by omega
  exact .inr ⟨rfl,by simp⟩
theorem path5:∀i,i<5→([[97],[49,58,97],[102,48],[100,111,99,115,47,120],[102,48,33,105,110]].getD i (default:Str)).length≤10:=by
 intro i hi
 have:i=0∨i=1∨i=2∨i=3∨i=4:=by omega
 rcases this with rfl|rfl|rfl|rfl|rfl<;>decide
theorem spots_ok {t:GTape} (ht:TO t) (a b:Int):Ok (loop F_1x (0,a,b,[],t)) fun r=>r.1=a∧r.2.1=b∧1≤r.2.2.1.length∧r.2.2.1.length≤3∧(∀k,k<r.2.2.1.length→okS k (r.2.2.1.getD k default))∧TO r.2.2.2:=by
 refine Ok.loop (Q:=fun r:Int×Int×List GSpot×GTape=>r.1=a∧r.2.1=b∧1≤r.2.2.1.length∧r.2.2.1.length≤3∧(∀k,k<r.2.2.1.length→okS k (r.2.2.1.getD k default))∧TO r.2.2.2) (fun x:Int×Int×Int×List GSpot×GTape=>x.1=x.2.2.2.1.length∧x.2.1=a∧x.2.2.1=b∧x.2.2.2.1.length≤3∧(∀k,k<x.2.2.2.1.length→okS k (x.2.2.2.1.getD k default))∧TO x.2.2.2.2) (fun x=>(3 - x.1).toNat) (fun x hx=>?_) _ ⟨rfl,rfl,rfl,by simp,by simp,ht⟩
 obtain ⟨s,a',b',l,t⟩:=x
 obtain ⟨h1,h2,h3,h4,h5,h6⟩:=hx
 dsimp only at h1 h2 h3 h4 h5 h6
 subst h1 h2 h3
 unfold F_1x
 refine Ok.bind (btw_ok h6 (by omega) (by omega) (by omega)) fun y hy=>Ok.ite (fun c=>?_) fun c=>?_
 ·have c:(l.length:Int)<y.1:=of_decide_eq_true c
  refine Ok.bind (nx_ok hy.2.2 (by omega)) fun z hz=>Ok.chk (inb_iff.2 ⟨hz.1,hz.2.1⟩) ?_
  refine Ok.bind (nx_ok hz.2.2 (by omega)) fun u hu=>Ok.bind (nx_ok hu.2.2 (by omega)) fun v hv=>Ok.bind (nx_ok hv.2.2 (by omega)) fun w hw=>?_
  refine Ok.chk (in64_s (by omega) (by omega)) (Ok.chk (room_s (by simp;omega)) (Ok.chk (in64_s (by dsimp only;omega) (by dsimp only;omega)) (Ok.ret ⟨⟨by dsimp only;simp,rfl,rfl,by dsimp only;simp;omega,fun k hk=>?_,hw.2.2⟩,by dsimp only;omega⟩)))
  dsimp only at hk ⊢
  rcases getD_snoc l _ k (by simpa using hk) with ⟨g1,g2⟩|⟨g1,g2⟩
  ·rw [g2];exact h5 k g1
  ·rw [g2,g1]
   exact ⟨rfl,path5 _ (by have:=hz.1;have:=hz.2.1;omega),rfl⟩
 ·have c:¬(l.length:Int)<y.1:=of_decide_eq_false c
  exact Ok.ret ⟨rfl,rfl,by dsimp only;omega,h4,h5,hy.2.2⟩
theorem findings_ok {t:GTape} (ht:TO t):Ok (F_1b t) fun y=>okL y.1∧y.1.length≤3∧TO y.2:=by
 unfold F_1b
 refine Ok.bind (nx_ok ht (by omega)) fun n hn=>?_
 refine Ok.bind (Ok.loop (Q:=fun r:List GFinding×GTape=>okL r.1∧r.1.length≤3∧TO r.2) (fun x:Int×List GFinding×GTape=>0≤x.1∧x.1+x.2.1.length≤3∧okL x.2.1∧TO x.2.2) (fun x=>x.1.toNat) (fun x hx=>?_) _ ⟨hn.1,by have:=hn.2.1;simp;omega,⟨by simp,by simp⟩,hn.2.2⟩) fun r hr=>Ok.ret hr
 obtain ⟨k,l,t⟩:=x
 obtain ⟨h1,h2,h3,h4⟩:=hx
 dsimp only at h1 h2 h3 h4
 unfold F_21
 refine Ok.ite (fun c=>?_) fun c=>Ok.ret ⟨h3,by dsimp only;omega,h4⟩
 have c:0<k:=of_decide_eq_true c
 refine Ok.bind (nx_ok h4 (by omega)) fun y hy=>Ok.bind (nx_ok hy.2.2 (by omega)) fun z hz=>?_
 refine Ok.jn (P:=fun j:Int×Int×GTape=>0≤j.1∧j.1≤l.length+1∧0≤j.2.1∧j.2.1≤l.length+1∧(∀i,i+1=l.length→(l.getD i default).Kind≤j.1∧(l.getD i default).Fingerprint<j.2.1)∧TO j.2.2) (Ok.ite (fun c1=>?_) fun c1=>Ok.ret ?_) fun j hj=>?_
 ·have c1:0<(l.length:Int):=of_decide_eq_true c1
  have e:((l.length:Int) - 1).toNat=l.length - 1:=by omega
  have hf:=h3.f (l.length - 1) (by omega)
  have a1:=hf.k0;have a2:=hf.k1;have a3:=hf.p0;have a4:=hf.p1
  dsimp only
  rw [e]
  refine Ok.chk (in64_s (by omega) (by omega)) (Ok.chk (inb_iff.2 ⟨by omega,by omega⟩) (Ok.bind (nx_ok hz.2.2 (by omega)) fun u hu=>Ok.chk (in64_s (by omega) (by omega)) (Ok.ret ?_)))
  rw [wrp (by omega) (by omega)]
  refine ⟨by dsimp only;omega,by dsimp only;omega,by dsimp only;omega,by dsimp only;omega,fun i hi=>?_,hu.2.2⟩
  obtain rfl:i=l.length - 1:=by omega
  exact ⟨by dsimp only;omega,by dsimp only;omega⟩
 ·have c1:¬0<(l.length:Int):=of_decide_eq_false c1
  rw [wrp (z:=(l.length:Int)) (by omega) (by omega),wrp (z:=z.1) hz.1 (by omega),wrp (by omega) (by omega)]
  refine ⟨hy.1,by have:=hy.2.1;dsimp only;omega,by have:=hz.1;dsimp only;omega,by have:=hz.2.1;dsimp only;omega,fun i hi=>by omega,hz.2.2⟩
 ·obtain ⟨j1,j2,j3,j4,j5,j6⟩:=hj
  refine Ok.bind (spots_ok j6 j.1 j.2.1) fun r hr=>?_
  obtain ⟨r1,r2,r3,r4,r5,r6⟩:=hr
  rw [r1,r2]
  refine Ok.chk (room_s (by simp;omega)) (Ok.chk (in64_s (by omega) (by omega)) (Ok.ret ⟨⟨by dsimp only;omega,by dsimp only;simp;omega,⟨fun i hi=>?_,fun i hi=>?_⟩,r6⟩,by dsimp only;omega⟩))
  ·dsimp only at hi ⊢
   rcases getD_snoc l (GFinding.mk j.1 j.2.1 r.2.2.1) i (by simpa using hi) with ⟨g1,g2⟩|⟨g1,g2⟩
   ·rw [g2];exact h3.f i g1
   ·rw [g2,g1];exact ⟨j1,j2,j3,j4,r3,r4,r5⟩
  ·dsimp only at hi ⊢
   have hi':i+1<l.length+1:=by simpa using hi
   rcases getD_snoc l (GFinding.mk j.1 j.2.1 r.2.2.1) i (by omega) with ⟨g1,g2⟩|⟨g1,g2⟩
   ·rcases getD_snoc l (GFinding.mk j.1 j.2.1 r.2.2.1) (i+1) hi' with ⟨g3,g4⟩|⟨g3,g4⟩
    ·rw [g2,g4];exact h3.s i g3
    ·rw [g2,g4];exact j5 i g3
   ·omega
theorem layers_eq:F_1d [] []=some 0:=by
 refine Ok.eq ?_
 unfold F_1d
 have:loop (F_22 [] []) 0=some (.inl ()):=by
  rw [loop_eq];rfl
 rw [this,Option.bind_some,Sum_inl]
 exact Ok.ret rfl
theorem order_lt {a b:GSpot} (ha:a.Layers=[]) (hb:b.Layers=[]) (h:a.Place.Source<b.Place.Source):F_1e a b=some (-1):=by
 refine Ok.eq ?_
 unfold F_1e
 refine Ok.jn (P:=fun j=>j.length=3∧j.getD 0 default=a.Place.Source) (Ok.ite (fun _=>Ok.chk (inb_iff.2 ⟨by omega,by simp⟩) (Ok.ret ⟨rfl,rfl⟩)) fun _=>Ok.ite (fun _=>Ok.chk (inb_iff.2 ⟨by omega,by simp⟩) (Ok.ret ⟨rfl,rfl⟩)) fun _=>Ok.ret ⟨rfl,rfl⟩) fun j hj=>?_
 rw [ha,hb,layers_eq,Option.bind_some]
 refine Ok.chk (room_s (by simp;omega)) (Ok.chk (room_s (by simp)) ?_)
 have e0:(j++[0,a.From,a.To]).getD 0 default=a.Place.Source:=by
  rw [←hj.2]
  rcases j with _|⟨x,r⟩
  ·simp at hj
  ·rfl
 have L:F_1o a b j 0 0=some (.ex (.inr (-1))):=by
  refine Ok.eq ?_
  unfold F_1o
  have i1:inb 0 (j++[0,a.From,a.To]).length=true:=inb_iff.2 ⟨by omega,by simp;omega⟩
  have i2:inb 0 ([b.Place.Source,0,b.Place.Time]++[0,b.From,b.To]).length=true:=inb_iff.2 ⟨by omega,by simp⟩
  refine Ok.ite (fun _=>Ok.chk i1 (Ok.chk i2 ?_)) fun f=>by simp at f;omega
  show Ok (bif (!decide ((j++[0,a.From,a.To]).getD 0 default=b.Place.Source)) then _ else _) _
  rw [e0]
  refine Ok.ite (fun _=>Ok.chk i1 (Ok.chk i2 ?_)) fun f=>by simp at f;omega
  show Ok (bif decide ((j++[0,a.From,a.To]).getD 0 default<b.Place.Source) then _ else _) _
  rw [e0]
  exact Ok.ite (fun _=>Ok.ret rfl) fun f=>by simp at f;omega
 have:loop (F_1o a b j 0) 0=some (.inr (-1)):=by
  rw [loop_eq,L];rfl
 rw [this,Option.bind_some,Sum_inr]
 exact Ok.ret rfl
theorem ordered_ok {l:List GFinding} (h:okL l) (hl:l.length≤3):F_1f l=some true:=by
 refine Ok.eq ?_
 unfold F_1f
 refine Ok.bind (Ok.loop (Q:=fun r=>r=.inl ()) (fun i:Int=>0≤i∧i≤l.length) (fun i=>((l.length:Int) - i).toNat) (fun i hi=>?_) 0 ⟨by omega,by omega⟩) fun r hr=>?_
 ·unfold F_24
  refine Ok.ite (fun c=>?_) fun _=>Ok.ret rfl
  have c:=of_decide_eq_true c
  obtain ⟨n,rfl⟩:=Int.eq_ofNat_of_zero_le hi.1
  have hf:=h.f n (by omega)
  have hin:inb (n:Int) l.length=true:=inb_iff.2 ⟨by omega,c⟩
  have e1:((n:Int)).toNat=n:=by omega
  have wl:∀{α:Type} {x y:Option α} {Q:α→Prop},Ok y Q→Ok (bif decide (((l.getD n default).Where.length:Int)=0) then x else y) Q:=fun {α x y Q} hy=>Ok.ite (fun f=>by have:=of_decide_eq_true f;have:=hf.w0;omega) fun _=>hy
  refine Ok.jn (P:=fun o=>∃q,o=.nx q) (Ok.ite (fun c1=>?_) fun c1=>Ok.chk hin ?_) fun o ho=>?_
  ·have c1:0<(n:Int):=of_decide_eq_true c1
   have e2:((n:Int) - 1).toNat=n - 1:=by omega
   refine Ok.chk (in64_s (by omega) (by omega)) (Ok.chk (inb_iff.2 ⟨by omega,by omega⟩) (Ok.chk hin ?_))
   rw [e1,e2]
   have hs:=h.s (n - 1) (by omega)
   rw [show n - 1+1=n by omega] at hs
   have hk:F_1c (l.getD (n - 1) default) (l.getD n default)=some (-1):=by
    refine Ok.eq ?_
    unfold F_1c
    refine Ok.grp (Ok.ite (fun _=>Ok.ret rfl) fun f=>?_)
    exfalso
    simp only [Bool.or_eq_false_iff,Bool.and_eq_false_iff,decide_eq_false_iff_not] at f
    omega
   rw [hk,Option.bind_some]
   exact Ok.ite (fun f=>by cases f) fun _=>Ok.chk hin (wl (Ok.ret ⟨_,rfl⟩))
  ·rw [e1]
   exact wl (Ok.ret ⟨_,rfl⟩)
  ·obtain ⟨q,rfl⟩:=ho
   rw [Fl_nx]
   refine Ok.bind (Ok.loop (Q:=fun r=>r=.inl ()) (fun k:Int=>1≤k∧k≤(l.getD n default).Where.length) (fun k=>(((l.getD n default).Where.length:Int) - k).toNat) (fun k hk=>?_) 1 ⟨by omega,by have:=hf.w0;omega⟩) fun r hr=>?_
   ·unfold F_23
    rw [e1]
    have hw1:=hf.w1
    refine Ok.chk hin (Ok.ite (fun d=>?_) fun _=>Ok.ret rfl)
    have d:=of_decide_eq_true d
    obtain ⟨p,rfl⟩:∃p:Nat,k=(p:Int)+1:=⟨(k - 1).toNat,by omega⟩
    have s1:=hf.w p (by omega)
    have s2:=hf.w (p+1) (by omega)
    refine Ok.chk hin (Ok.chk (in64_s (by omega) (by omega)) (Ok.chk (inb_iff.2 ⟨by omega,by omega⟩) (Ok.chk hin (Ok.chk (inb_iff.2 ⟨by omega,by omega⟩) ?_))))
    rw [show ((p:Int)+1 - 1).toNat=p by omega,show ((p:Int)+1).toNat=p+1 by omega]
    rw [order_lt s1.2.2 s2.2.2 (by rw [s1.1,s2.1];omega),Option.bind_some]
    exact Ok.ite (fun f=>by cases f) fun _=>Ok.chk (in64_s (by omega) (by omega)) (Ok.ret ⟨⟨by omega,by omega⟩,by omega⟩)
   ·subst hr
    rw [Sum_inl]
    exact Ok.chk (in64_s (by omega) (by omega)) (Ok.ret ⟨⟨by omega,by omega⟩,by omega⟩)
 ·subst hr
  exact Ok.ret rfl
theorem num_mono:∀n (k:Int),Le (FR_4 n k) (FR_4 (n+1) k)
 | 0,k=>by rw [FR_4];exact Le.non
 | n+1,k=>by
  have ih:=num_mono n
  rw [FR_4,FR_4]
  (repeat' (with_reducible first|exact Le.refl|assumption|exact ih _|(refine Le.bind ?_ fun _=>?_)|(refine Le.chk ?_)|(refine Le.cond ?_ ?_)))
theorem num_small {n:Int} (h0:0≤n) (h1:n<10):F_4 n=some [u8 (48+((u8 n).toNat:Int))]:=by
 refine Ok.eq (Ok.lim (f:=fun m=>FR_4 m n) (fun m=>num_mono m n) 1 ?_)
 rw [FR_4]
 exact Ok.ite (fun _=>Ok.ret rfl) fun f=>absurd h1 (of_decide_eq_false f)
theorem shapes_ok:Ok F_1n fun y=>y.length=6:=⟨_,rfl,rfl⟩
theorem kinds_ok {t:GTape} (ht:TO t):Ok (F_1a t) fun y=>TO y.2:=by
 unfold F_1a
 refine Ok.bind shapes_ok fun sh hsh=>Ok.bind (btw_ok ht (by omega) (by omega) (by omega)) fun n hn=>?_
 refine Ok.bind (Ok.loop (Q:=fun r:List GKind×GTape=>TO r.2) (fun x:Int×List GKind×GTape=>0≤x.1∧x.1+x.2.1.length≤3∧TO x.2.2) (fun x=>x.1.toNat) (fun x hx=>?_) _ ⟨by omega,by have:=hn.2.1;simp;omega,hn.2.2⟩) fun r hr=>Ok.ret hr
 obtain ⟨k,l,t⟩:=x
 obtain ⟨h1,h2,h3⟩:=hx
 dsimp only at h1 h2 h3
 unfold F_20
 refine Ok.ite (fun c=>?_) fun c=>Ok.ret h3
 have c:0<k:=of_decide_eq_true c
 dsimp only
 rw [num_small (by omega) (by omega),Option.bind_some]
 refine Ok.chk (strl_iff.2 (by simp)) (Ok.bind (nx_ok h3 (by omega)) fun y hy=>Ok.chk (inb_iff.2 ⟨hy.1,hy.2.1⟩) (Ok.bind (nx_ok hy.2.2 (by omega)) fun z hz=>?_))
 refine Ok.jn (P:=fun j:GKind×GTape=>TO j.2) (Ok.bind (nx_ok hz.2.2 (by omega)) fun u hu=>?_) fun j hj=>?_
 ·refine Ok.ite (fun _=>Ok.ret hu.2.2) fun _=>Ok.ite (fun _=>Ok.bind (nx_ok hu.2.2 (by omega)) fun v hv=>Ok.chk (in64_s (by omega) (by omega)) (Ok.ret hv.2.2)) fun _=>Ok.ite (fun _=>Ok.bind (btw_ok hu.2.2 (by omega) (by omega) (by omega)) fun v hv=>Ok.ret hv.2.2) fun _=>Ok.ite (fun _=>Ok.bind (nx_ok hu.2.2 (by omega)) fun v hv=>Ok.ret hv.2.2) fun _=>Ok.ite (fun _=>Ok.bind (btw_ok hu.2.2 (by omega) (by omega) (by omega)) fun v hv=>Ok.ret hv.2.2) fun _=>Ok.ret hu.2.2
 ·exact Ok.chk (room_s (by simp;omega)) (Ok.chk (in64_s (by omega) (by omega)) (Ok.ret ⟨⟨by dsimp only;omega,by dsimp only;simp;omega,hj⟩,by dsimp only;omega⟩))
theorem logic21 {tape:List Int} (ht:(V.sl (tape.map (V.int .i64))).fact):F_1p tape=some true:=by
 have h0:TO (GTape.mk tape 0):=⟨Int.le_refl 0,Int.ofNat_le.2 (fact_sl ht)⟩
 refine Ok.eq ?_
 unfold F_1p
 refine Ok.bind (kinds_ok h0) fun y2 h2=>Ok.bind (made_term 2 (by omega) h2) fun y5 h5=>Ok.bind (made_term 2 (by omega) h5.2.2.2) fun y6 h6=>Ok.bind (findings_ok h6.2.2.2) fun y8 h8=>?_
 obtain ⟨a1,a2,a3,_⟩:=h5
 obtain ⟨b1,b2,b3,_⟩:=h6
 obtain ⟨f1,f2,_⟩:=h8
 have ca:=cnt_pos y5.1;have cb:=cnt_pos y6.1
 have pa:PV y5.1:=⟨by omega,by omega,a1⟩
 have pb:PV y6.1:=⟨by omega,by omega,b1⟩
 have pn:PV (GTerm.mk 9 [] 0 0 [y5.1]):=⟨by rw [cnt_eq];simp only [GTerm.cnts];omega,by rw [hgt_eq];simp only [GTerm.hgts];omega,.mk _ (.inr (.inr (.inr ⟨.inl rfl,rfl,rfl,rfl,.inl ⟨rfl,rfl⟩⟩))) (by simp;exact a1)⟩
 have pd:PV (GTerm.mk 10 [] 0 0 [y5.1,y6.1]):=⟨by rw [cnt_eq];simp only [GTerm.cnts];omega,by rw [hgt_eq];simp only [GTerm.hgts];omega,.mk _ (.inr (.inr (.inr ⟨.inr (.inl rfl),rfl,rfl,rfl,.inr ⟨by show (10:Int)≠9;decide,by simp⟩⟩))) (by simp;exact ⟨a1,b1⟩)⟩
 have po:PV (GTerm.mk 11 [] 0 0 [y5.1,y6.1,y5.1]):=⟨by rw [cnt_eq];simp only [GTerm.cnts];omega,by rw [hgt_eq];simp only [GTerm.hgts];omega,.mk _ (.inr (.inr (.inr ⟨.inr (.inr rfl),rfl,rfl,rfl,.inr ⟨by show (11:Int)≠9;decide,by simp⟩⟩))) (by simp;exact ⟨a1,b1,a1⟩)⟩
 refine Ok.bind (Ok.loop (Q:=fun r=>r=.inl ()) (fun i:Int=>0≤i∧i≤y8.1.length) (fun i=>((y8.1.length:Int) - i).toNat) (fun i hi=>?_) 0 ⟨by omega,by omega⟩) fun r hr=>?_
 ·unfold F_26
  refine Ok.ite (fun c=>?_) fun _=>Ok.ret rfl
  have c:=of_decide_eq_true c
  obtain ⟨n,rfl⟩:=Int.eq_ofNat_of_zero_le hi.1
  have hf:=f1.f n (by omega)
  have hin:inb (n:Int) y8.1.length=true:=inb_iff.2 ⟨by omega,c⟩
  have e1:((n:Int)).toNat=n:=by omega
  refine Ok.bind (Ok.loop (Q:=fun r=>r=.inl ()) (fun k:Int=>0≤k∧k≤(y8.1.getD n default).Where.length) (fun k=>(((y8.1.getD n default).Where.length:Int) - k).toNat) (fun k hk=>?_) 0 ⟨by omega,by omega⟩) fun r hr=>?_
  ·unfold F_25
   rw [e1]
   have hw1:=hf.w1
   refine Ok.chk hin (Ok.ite (fun d=>?_) fun _=>Ok.ret rfl)
   have d:=of_decide_eq_true d
   have hp:((y8.1.getD n default).Where.getD k.toNat default).Place.Path.length≤1000000:=by
    have:=(hf.w k.toNat (by omega)).2.1;omega
   have H:∀t,PV t→F_l t y2.1 (y8.1.getD n default) k=some (hold y2.1 (y8.1.getD n default) ((y8.1.getD n default).Where.getD k.toNat default) t):=fun t ht=>Holds_eq hk.1 d hp ht
   have en:hold y2.1 (y8.1.getD n default) ((y8.1.getD n default).Where.getD k.toNat default) (GTerm.mk 9 [] 0 0 [y5.1])=!hold y2.1 (y8.1.getD n default) ((y8.1.getD n default).Where.getD k.toNat default) y5.1:=by
    rw [hold_eq];simp [holdA]
   have ed:hold y2.1 (y8.1.getD n default) ((y8.1.getD n default).Where.getD k.toNat default) (GTerm.mk 10 [] 0 0 [y5.1,y6.1])=(hold y2.1 (y8.1.getD n default) ((y8.1.getD n default).Where.getD k.toNat default) y5.1&&hold y2.1 (y8.1.getD n default) ((y8.1.getD n default).Where.getD k.toNat default) y6.1):=by
    rw [hold_eq];simp [holdA]
   have eo:hold y2.1 (y8.1.getD n default) ((y8.1.getD n default).Where.getD k.toNat default) (GTerm.mk 11 [] 0 0 [y5.1,y6.1,y5.1])=(hold y2.1 (y8.1.getD n default) ((y8.1.getD n default).Where.getD k.toNat default) y5.1||hold y2.1 (y8.1.getD n default) ((y8.1.getD n default).Where.getD k.toNat default) y6.1):=by
    rw [hold_eq]
    simp only [holdO]
    cases hold y2.1 (y8.1.getD n default) ((y8.1.getD n default).Where.getD k.toNat default) y5.1<;>simp
   refine Ok.jn (P:=fun o=>∃q,o=.nx q) (Ok.chk hin ?_) fun o ho=>?_
   ·rw [H _ pa,Option.bind_some,H _ pb,Option.bind_some,H _ pn,Option.bind_some,H _ pd,Option.bind_some,H _ po,Option.bind_some,en,ed,eo]
    refine Ok.chk hin (Ok.chk hin (Ok.ite (fun f=>by simp at f) fun _=>Ok.chk hin ?_))
    generalize hold y2.1 (y8.1.getD n default) ((y8.1.getD n default).Where.getD k.toNat default) y5.1=p
    generalize hold y2.1 (y8.1.getD n default) ((y8.1.getD n default).Where.getD k.toNat default) y6.1=q
    cases p<;>cases q<;>exact Ok.chk hin (Ok.ret ⟨_,rfl⟩)
   ·obtain ⟨q,rfl⟩:=ho
    rw [Fl_nx]
    exact Ok.chk (in64_s (by omega) (by omega)) (Ok.ret ⟨⟨by omega,by omega⟩,by omega⟩)
  ·subst hr
   rw [Sum_inl]
   exact Ok.chk (in64_s (by omega) (by omega)) (Ok.ret ⟨⟨by omega,by omega⟩,by omega⟩)
 ·subst hr
  rw [Sum_inl,ordered_ok f1 f2,Option.bind_some]
  refine Ok.jn (P:=fun b=>b=true) (Ok.ite (fun _=>?_) fun f=>by cases f) fun b hb=>Ok.ret hb
  rw [awake21]
  exact Ok.ret rfl
theorem acall_fact' {P:Program} {f:FuncId} {ys:List V} {H:Heap} {Q:V→Heap→Prop} (hc:callable P f=true) (h:(∀y∈ys,y.fact)→ACall P f ys H Q):ACall P f ys H Q :=
 ⟨hc,fun g w vals hH hs hr=>(h fun y hy=>by
  obtain ⟨i,hi⟩:=List.getElem?_of_mem hy
  exact (hr i y hi).fact).2 g w vals hH hs hr⟩
theorem call21l {tape:List Int}:ACall Tryz.prog 5 [.sl (tape.map (V.int .i64))] [] (fun r H=>r=.bool true∧H=[]) :=
 acall_fact' (by kernel_rfl) fun h=>Wq_1p.w (logic21 (h _ (by simp)))
end Go.Ab
