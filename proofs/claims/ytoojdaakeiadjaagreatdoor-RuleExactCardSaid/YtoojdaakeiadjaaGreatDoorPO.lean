/- Rules: numbers of terms, depths, and which are right. -/
import Derived.Test.YtoojdaakeiadjaaGreatDoorLA
import Derived.Test.YtoojdaakeiadjaaGreatDoorAbHo
import Derived.Test.YtoojdaakeiadjaaGreatDoorLD
import Derived.Test.YtoojdaakeiadjaaGreatDoorMI
set_option linter.all false
set_option linter.all false
namespace Go.Ab
open Go.Proofs
theorem in64_s {n:Int} (h1:-1000000000000000≤n) (h2:n≤1000000000000000):in64 n=true:=in64_iff.2 ⟨by omega,by omega⟩
theorem mem_at {α:Type} {l pre r:List α} {x:α} (hw:l=pre++x::r):x∈l:=by rw [hw];simp
mutual
def GTerm.hgt:GTerm→Nat
 | ⟨_,_,_,_,k⟩=>GTerm.hgts k+1
def GTerm.hgts:List GTerm→Nat
 | []=>0
 | a::r=>max (GTerm.hgt a) (GTerm.hgts r)
end
theorem hgt_eq (x:GTerm):x.hgt=GTerm.hgts x.Kids+1:=by cases x;simp only [GTerm.hgt]
theorem hgts_mem:∀{l:List GTerm} {k:GTerm},k∈l→k.hgt≤GTerm.hgts l
 | a::r,k,h=>by
  simp only [GTerm.hgts]
  rcases List.mem_cons.1 h with rfl|h
  ·omega
  ·have:=hgts_mem h;omega
theorem kid_hgt {x k:GTerm} (h:k∈x.Kids):k.hgt<x.hgt:=by rw [hgt_eq x];have:=hgts_mem h;omega
theorem hgt_pos (x:GTerm):1≤x.hgt:=by rw [hgt_eq];omega
theorem GTerm.ind {P:GTerm→Prop} (h:∀x,(∀k∈x.Kids,P k)→P x):∀x,P x:=by
 have:∀n (x:GTerm),x.hgt≤n→P x:=by
  intro n
  induction n with
  | zero=>intro x hx;have:=hgt_pos x;omega
  | succ n ih=>intro x hx;exact h x fun k hk=>ih k (by have:=kid_hgt hk;omega)
 exact fun x=>this x.hgt x (Nat.le_refl _)
mutual
def GTerm.cnt:GTerm→Int
 | ⟨_,_,_,_,k⟩=>GTerm.cnts k+1
def GTerm.cnts:List GTerm→Int
 | []=>0
 | a::r=>GTerm.cnt a+GTerm.cnts r
end
theorem cnt_eq (x:GTerm):x.cnt=GTerm.cnts x.Kids+1:=by cases x;simp only [GTerm.cnt]
theorem cnts_nn':∀{l:List GTerm},(∀k∈l,1≤k.cnt)→(l.length:Int)≤GTerm.cnts l
 | [],_=>by simp [GTerm.cnts]
 | a::r,h=>by
  have h1:=h a (by simp)
  have h2:=cnts_nn' (l:=r) fun k hk=>h k (by simp [hk])
  simp only [GTerm.cnts,List.length_cons];omega
theorem cnt_pos:∀x:GTerm,1≤x.cnt:=GTerm.ind fun x ih=>by rw [cnt_eq];have:=cnts_nn' ih;omega
theorem cnts_len (l:List GTerm):(l.length:Int)≤GTerm.cnts l:=cnts_nn' fun k _=>cnt_pos k
theorem cnts_append:∀a b:List GTerm,GTerm.cnts (a++b)=GTerm.cnts a+GTerm.cnts b
 | [],b=>by simp [GTerm.cnts]
 | x::r,b=>by simp only [List.cons_append,GTerm.cnts,cnts_append r b];omega
theorem terms_ok:∀(x:GTerm) (m:Nat),x.hgt≤m→Ok (FR_2 m x) (·=min x.cnt 61):=by
 refine GTerm.ind fun x ih m hm=>?_
 cases m with
 | zero=>have:=hgt_pos x;omega
 | succ m =>
  simp only [FR_2]
  refine Ok.bind (Ok.forI (all:=x.Kids) (Q:=fun o=>o=if 1+GTerm.cnts x.Kids≤60 then .nx (1+GTerm.cnts x.Kids) else .ex 61) (fun pre s=>s=1+GTerm.cnts pre∧s≤60) x.Kids [] 0 1 rfl rfl ⟨by simp [GTerm.cnts],by omega⟩ (fun pre k r s hw hs=>?_) fun s hs=>?_) fun o ho=>?_
  ·obtain ⟨hs,hs2⟩:=hs
   have hk:=mem_at hw
   have h1:=cnts_len pre
   have h2:=cnts_len r
   have h3:=cnt_pos k
   have hc:GTerm.cnts x.Kids=GTerm.cnts pre+(k.cnt+GTerm.cnts r):=by rw [hw,cnts_append];simp only [GTerm.cnts]
   refine Ok.bind (ih k hk m (by have:=kid_hgt hk;omega)) fun y hy=>?_
   subst hy
   refine Ok.chk (in64_s (by omega) (by omega)) (Ok.ite (fun c=>?_) fun c=>?_)
   ·have c:=of_decide_eq_true c
    refine Ok.ret ?_
    show Fl.ex 61=_
    rw [if_neg (by omega)]
   ·have c:=of_decide_eq_false c
    exact Ok.ret ⟨by rw [cnts_append];simp only [GTerm.cnts];omega,by omega⟩
  ·rw [if_pos (by omega),←hs.1]
  ·subst ho
   rw [cnt_eq]
   by_cases c:1+GTerm.cnts x.Kids≤60
   ·rw [if_pos c];exact Ok.ret (by show _=min _ _;omega)
   ·rw [if_neg c];exact Ok.ret (by show _=min _ _;omega)
theorem terms_eq (x:GTerm):F_2 x=some (min x.cnt 61):=lim_of ⟨x.hgt,fun m hm=>(terms_ok x m hm).eq⟩
theorem hgts_append:∀a b:List GTerm,GTerm.hgts (a++b)=max (GTerm.hgts a) (GTerm.hgts b)
 | [],b=>by simp [GTerm.hgts]
 | x::r,b=>by simp only [List.cons_append,GTerm.hgts,hgts_append r b];omega
theorem depth_ok:∀(x:GTerm) (m:Nat) (left:Int),x.hgt≤m→0≤left→left≤1000→Ok (FR_3 m x left) (·=min (x.hgt:Int) (left+1)):=by
 refine GTerm.ind fun x ih m left hm h0 h1=>?_
 cases m with
 | zero=>have:=hgt_pos x;omega
 | succ m =>
  have hp:=hgt_pos x
  simp only [FR_3]
  refine Ok.ite (fun c=>?_) fun c=>?_
  ·have c:=of_decide_eq_true c
   exact Ok.ret (by show _=min _ _;omega)
  ·have c:=of_decide_eq_false c
   refine Ok.bind (Ok.foldI (all:=x.Kids) (Q:=fun o=>o=min (GTerm.hgts x.Kids:Int) left) (fun pre s=>s=min (GTerm.hgts pre:Int) left) x.Kids [] 0 0 rfl rfl (by simp only [GTerm.hgts];omega) (fun pre k r s hw hs=>?_) fun s hs=>hs) fun o ho=>?_
   ·have hk:=mem_at hw
    refine Ok.chk (in64_s (by omega) (by omega)) (Ok.bind (ih k hk m (left - 1) (by have:=kid_hgt hk;omega) (by omega) (by omega)) fun y hy=>Ok.ret ?_)
    subst hy hs
    rw [hgts_append];simp only [GTerm.hgts];omega
   ·subst ho
    refine Ok.chk (in64_s (by omega) (by omega)) (Ok.ret ?_)
    rw [hgt_eq];omega
theorem depth_eq (x:GTerm):F_3 x 20=some (min (x.hgt:Int) 21):=lim_of ⟨x.hgt,fun m hm=>(depth_ok x m 20 hm (by omega) (by omega)).eq⟩
theorem contains_go {α:Type} {body:Int→α→Unit→Option (Fl Unit Int)} (p:α→Prop) [DecidablePred p]:∀(xs:List α) (k:Int),0≤k→(∀k x,x∈xs→body k x ()=some (if p x then .ex k else .nx ())) →
  ∃o,forL body xs k ()=some o∧((∃x∈xs,p x)→∃r,o=.ex r∧0≤r)∧((∀x∈xs,¬p x)→o=.nx ())
 | [],k,hk,h=>⟨.nx (),rfl,fun ⟨x,hx,_⟩=>by simp at hx,fun _=>rfl⟩
 | x::r,k,hk,h=>by
  simp only [forL,h k x (by simp)]
  by_cases c:p x
  ·simp only [if_pos c,Option.bind_some,Fl_ex]
   exact ⟨_,rfl,fun _=>⟨k,rfl,hk⟩,fun hn=>absurd c (hn x (by simp))⟩
  ·simp only [if_neg c,Option.bind_some,Fl_nx]
   obtain ⟨o,h1,h2,h3⟩:=contains_go p r (k+1) (by omega) fun k y hy=>h k y (by simp [hy])
   refine ⟨o,h1,fun ⟨y,hy,hp⟩=>?_,fun hn=>h3 fun y hy=>hn y (by simp [hy])⟩
   rcases List.mem_cons.1 hy with rfl|hy
   ·exact absurd hp c
   ·exact h2 ⟨y,hy,hp⟩
open Classical in
theorem contains_b {α:Type} {body:Int→α→Unit→Option (Fl Unit Int)} (p:α→Prop) (xs:List α) [Decidable (∃x∈xs,p x)] (h:∀k x,x∈xs→body k x ()=some (if p x then .ex k else .nx ())) :
  (((forL body xs 0 ()).bind fun o=>o.elim (fun _=>some (-1)) fun r=>some r).bind fun y=>some (decide (0≤y)))=some (decide (∃x∈xs,p x)):=by
 obtain ⟨o,h1,h2,h3⟩:=contains_go p xs 0 (Int.le_refl 0) h
 rw [h1]
 by_cases c:∃x∈xs,p x
 ·obtain ⟨r,rfl,hr⟩:=h2 c
  simp only [Option.bind_some,Fl_ex,decide_eq_true hr,decide_eq_true c]
 ·have:=h3 fun x hx hp=>c ⟨x,hx,hp⟩
  subst this
  simp only [Option.bind_some,Fl_nx,decide_eq_false c]
  rfl
def qP (s:Str):Prop:=(∀c∈s,33≤c.toNat∧c.toNat≤126∧c.toNat≠34)∧1≤s.length∧s.length≤40
def okN (x:GTerm):Prop :=
 ((x.Op=1∨x.Op=2∨x.Op=3)∧qP x.Text∧x.Number=0∧x.Print=0∧x.Kids=[]) ∨
 ((x.Op=4∨x.Op=5∨x.Op=6∨x.Op=8)∧x.Text=[]∧0≤x.Number∧x.Number≤1099511627776∧x.Print=0∧x.Kids=[]) ∨
 (x.Op=7∧x.Text=[]∧x.Number=0∧x.Kids=[]) ∨
 ((x.Op=9∨x.Op=10∨x.Op=11)∧x.Text=[]∧x.Number=0∧x.Print=0∧((x.Op=9∧x.Kids.length=1)∨(x.Op≠9∧2≤x.Kids.length)))
inductive Rgt:GTerm→Prop
 | mk (x:GTerm) (h:okN x) (hk:∀k∈x.Kids,Rgt k):Rgt x
theorem Rgt.ok {x:GTerm} (h:Rgt x):okN x:=by cases h;assumption
theorem Rgt.kid {x k:GTerm} (h:Rgt x) (hk:k∈x.Kids):Rgt k:=by cases h with|mk _ _ h=>exact h k hk
open Classical in
theorem quot_eq (s:Str):F_o s=some (decide (qP s)):=by
 refine Ok.eq ?_
 unfold F_o
 refine Ok.bind (Ok.forI (all:=s) (Q:=Fl.elim (fun _=>∀c∈s,33≤c.toNat∧c.toNat≤126∧c.toNat≠34) fun r=>r=false∧¬qP s) (fun pre _=>∀c∈pre,33≤c.toNat∧c.toNat≤126∧c.toNat≠34) s [] 0 () rfl rfl (by simp) (fun pre c r _ hw hs=>?_) fun _ hs=>hs) fun o ho=>?_
 ·unfold F_1b
  refine Ok.grp (Ok.grp (Ok.ite (fun c1=>Ok.ret ⟨rfl,fun hq=>?_⟩) fun c1=>Ok.ret ?_))
  ·have:=hq.1 c (mem_at hw)
   simp only [Bool.or_eq_true,decide_eq_true_eq] at c1
   omega
  ·simp only [Bool.or_eq_false_iff,decide_eq_false_iff_not] at c1
   intro d hd
   rcases List.mem_append.1 hd with hd|hd
   ·exact hs d hd
   ·cases List.mem_singleton.1 hd
    omega
 ·cases o with
  | ex r =>
   obtain ⟨rfl,h⟩:=ho
   exact Ok.ret (decide_eq_false h).symm
  | nx u =>
   refine Ok.grp (Ok.ret ?_)
   rw [Bool.eq_iff_iff]
   simp only [Bool.and_eq_true,decide_eq_true_eq]
   exact ⟨fun h=>⟨ho,by omega,by omega⟩,fun h=>⟨by have:=h.2.1;omega,by have:=h.2.2;omega⟩⟩
theorem len0 {α:Type} {l:List α}:(l.length:Int)=0↔l=[]:=by
 rw [←List.length_eq_zero_iff];omega
open Classical in
theorem right_ok:∀(x:GTerm) (m:Nat),4*x.hgt≤m→Ok (FR_4 m x) (·=decide (Rgt x)):=by
 refine GTerm.ind fun x ih m hm=>?_
 have hp:=hgt_pos x
 obtain ⟨m,rfl⟩:∃n,m=n+4:=⟨m - 4,by omega⟩
 have hc:FR_e (m+3) x.Kids=some (decide (∃k∈x.Kids,¬Rgt k)):=by
  simp only [FR_e,FR_g]
  refine contains_b (fun k=>¬Rgt k) x.Kids fun k y hy=>?_
  have:=(ih y hy m (by have:=kid_hgt hy;omega)).eq
  simp only [FR_7,this,Option.bind_some]
  by_cases c:Rgt y<;>simp [c]
 simp only [FR_4]
 refine Ok.jn (P:=fun b=>b=decide (okN x)) ?_ fun y hy=>?_
 ·refine Ok.jn (P:=fun b=>b=decide (x.Op=1∨x.Op=2∨x.Op=3)) (Ok.ite (fun c=>Ok.ret (by simpa using .inl (of_decide_eq_true c))) fun c=>Ok.ite (fun c2=>Ok.ret (by simpa using .inr (.inl (of_decide_eq_true c2)))) fun c2=>Ok.ret (by simp at c c2;simp [c,c2])) fun b hb=>?_
  subst hb
  refine Ok.ite (fun c=>?_) fun c=>?_
  ·have c:=of_decide_eq_true c
   rw [quot_eq,Option.bind_some]
   refine Ok.grp (Ok.grp (Ok.grp (Ok.ret ?_)))
   rw [Bool.eq_iff_iff]
   simp only [Bool.and_eq_true,decide_eq_true_eq,len0]
   constructor
   ·rintro ⟨⟨⟨h1,h2⟩,h3⟩,h4⟩;exact .inl ⟨c,h1,h2,h3,h4⟩
   ·rintro (h|⟨h,_⟩|⟨h,_⟩|⟨h,_⟩)
    ·exact ⟨⟨⟨h.2.1,h.2.2.1⟩,h.2.2.2.1⟩,h.2.2.2.2⟩
    all_goals omega
  ·have c:=of_decide_eq_false c
   refine Ok.jn (P:=fun b=>b=decide (x.Op=4∨x.Op=5∨x.Op=6∨x.Op=8)) (Ok.ite (fun c=>Ok.ret (by simpa using .inl (of_decide_eq_true c))) fun c=>Ok.ite (fun c2=>Ok.ret (by simpa using .inr (.inl (of_decide_eq_true c2)))) fun c2=>Ok.ite (fun c3=>Ok.ret (by simpa using .inr (.inr (.inl (of_decide_eq_true c3))))) fun c3=>Ok.ret (by simp at c c2 c3;simp [c,c2,c3])) fun b hb=>?_
   subst hb
   refine Ok.ite (fun c1=>?_) fun c1=>?_
   ·have c1:=of_decide_eq_true c1
    refine Ok.grp (Ok.grp (Ok.grp (Ok.grp (Ok.ret ?_))))
    rw [Bool.eq_iff_iff]
    simp only [Bool.and_eq_true,decide_eq_true_eq,len0]
    constructor
    ·rintro ⟨⟨⟨⟨h1,h2⟩,h3⟩,h4⟩,h5⟩;exact .inr (.inl ⟨c1,h1,h2,h3,h4,h5⟩)
    ·rintro (⟨h,_⟩|h|⟨h,_⟩|⟨h,_⟩)
     ·omega
     ·exact ⟨⟨⟨⟨h.2.1,h.2.2.1⟩,h.2.2.2.1⟩,h.2.2.2.2.1⟩,h.2.2.2.2.2⟩
     all_goals omega
   ·have c1:=of_decide_eq_false c1
    refine Ok.ite (fun c2=>?_) fun c2=>?_
    ·have c2:=of_decide_eq_true c2
     refine Ok.grp (Ok.grp (Ok.ret ?_))
     rw [Bool.eq_iff_iff]
     simp only [Bool.and_eq_true,decide_eq_true_eq,len0]
     constructor
     ·rintro ⟨⟨h1,h2⟩,h3⟩;exact .inr (.inr (.inl ⟨c2,h1,h2,h3⟩))
     ·rintro (⟨h,_⟩|⟨h,_⟩|h|⟨h,_⟩)
      ·omega
      ·omega
      ·exact ⟨⟨h.2.1,h.2.2.1⟩,h.2.2.2⟩
      ·omega
    ·have c2:=of_decide_eq_false c2
     refine Ok.jn (P:=fun b=>b=decide (x.Op=9∨x.Op=10∨x.Op=11)) (Ok.ite (fun c=>Ok.ret (by simpa using .inl (of_decide_eq_true c))) fun c=>Ok.ite (fun c2=>Ok.ret (by simpa using .inr (.inl (of_decide_eq_true c2)))) fun c2=>Ok.ret (by simp at c c2;simp [c,c2])) fun b hb=>?_
     subst hb
     refine Ok.ite (fun c3=>?_) fun c3=>?_
     ·have c3:=of_decide_eq_true c3
      refine Ok.grp (Ok.grp (Ok.grp (Ok.ret ?_)))
      rw [Bool.eq_iff_iff]
      simp only [Bool.and_eq_true,Bool.or_eq_true,Bool.not_eq_true',decide_eq_true_eq,decide_eq_false_iff_not]
      constructor
      ·rintro ⟨⟨⟨h1,h2⟩,h3⟩,h4⟩
       refine .inr (.inr (.inr ⟨c3,h1,h2,h3,?_⟩))
       rcases h4 with h4|h4
       ·exact .inl ⟨h4.1,by omega⟩
       ·exact .inr ⟨h4.1,by omega⟩
      ·rintro (⟨h,_⟩|⟨h,_⟩|⟨h,_⟩|h)
       ·omega
       ·omega
       ·omega
       ·refine ⟨⟨⟨h.2.1,h.2.2.1⟩,h.2.2.2.1⟩,?_⟩
        rcases h.2.2.2.2 with h4|h4
        ·exact .inl ⟨h4.1,by omega⟩
        ·exact .inr ⟨h4.1,by omega⟩
     ·have c3:=of_decide_eq_false c3
      refine Ok.ret (decide_eq_false ?_).symm
      rintro (⟨h,_⟩|⟨h,_⟩|⟨h,_⟩|⟨h,_⟩)<;>omega
 ·subst hy
  refine Ok.jn (P:=fun b=>b=decide (Rgt x)) (Ok.ite (fun c=>?_) fun c=>?_) fun b hb=>Ok.ret hb
  ·have c:=of_decide_eq_true c
   rw [hc]
   refine Ok.ret ?_
   rw [Bool.eq_iff_iff]
   simp only [Bool.not_eq_true',decide_eq_false_iff_not,decide_eq_true_eq]
   exact ⟨fun h=>.mk x c fun k hk=>Classical.byContradiction fun hn=>h ⟨k,hk,hn⟩,fun h ⟨k,hk,hn⟩=>hn (h.kid hk)⟩
  ·have c:=of_decide_eq_false c
   exact Ok.ret (decide_eq_false fun h=>c h.ok).symm
open Classical in
theorem right_eq (x:GTerm):F_4 x=some (decide (Rgt x)):=lim_of ⟨4*x.hgt,fun m hm=>(right_ok x m hm).eq⟩
structure PV (x:GTerm):Prop where
 cnt:x.cnt≤60
 hgt:x.hgt≤20
 rgt:Rgt x
open Classical in
noncomputable def GTerm.err (x:GTerm):Int:=if 60<x.cnt then 3 else if 20<x.hgt then 9 else if ¬Rgt x then 1 else 0
open Classical in
theorem term_eq (x:GTerm):F_i x=some x.err:=by
 refine Ok.eq ?_
 unfold F_i GTerm.err
 rw [terms_eq,Option.bind_some]
 refine Ok.ite (fun c=>Ok.ret (by rw [if_pos (by have:=of_decide_eq_true c;omega)])) fun c=>?_
 have c:=of_decide_eq_false c
 rw [if_neg (by omega),depth_eq,Option.bind_some]
 refine Ok.ite (fun c=>Ok.ret (by rw [if_pos (by have:=of_decide_eq_true c;omega)])) fun c=>?_
 have c:=of_decide_eq_false c
 rw [if_neg (by omega),right_eq,Option.bind_some]
 refine Ok.ite (fun c=>Ok.ret (by rw [if_pos (by simpa using c)])) fun c=>Ok.ret (by rw [if_neg (by simpa using c)])
theorem err_zero {x:GTerm}:x.err=0↔PV x:=by
 classical
 unfold GTerm.err
 constructor
 ·intro h
  split at h
  ·omega
  ·split at h
   ·omega
   ·split at h
    ·omega
    ·rename_i h1 h2 h3
     exact ⟨by omega,by omega,Classical.byContradiction h3⟩
 ·rintro ⟨h1,h2,h3⟩
  rw [if_neg (by omega),if_neg (by omega),if_neg (fun h=>h h3)]
end Go.Ab
namespace Go.Ab
open Go.Proofs
def leafH (ks:List GKind) (f:GFinding) (s:GSpot) (o:Int) (t:Str) (n p:Int):Bool :=
 if o=1 then decide (0≤f.Kind∧f.Kind<ks.length∧(ks.getD f.Kind.toNat default).Name=t)
 else if o=2 then decide (s.Place.Path.take t.length=t)
 else if o=3 then decide (s.Place.Path.drop (s.Place.Path.length - t.length)=t)
 else if o=4 then decide (s.Place.Source=n)
 else if o=5 then decide (n≤s.Layers.length)
 else if o=6 then decide (s.From≤s.To∧IntKind.wrap .u64 n≤IntKind.wrap .u64 (IntKind.wrap .u64 s.To - IntKind.wrap .u64 s.From))
 else if o=7 then decide (f.Fingerprint=p)
 else decide (s.Place.Time<n)
mutual
def hold (ks:List GKind) (f:GFinding) (s:GSpot):GTerm→Bool
 | ⟨o,t,n,p,k⟩=>if o=9 then !holdA ks f s k else if o=10 then holdA ks f s k else if o=11 then holdO ks f s k else leafH ks f s o t n p
def holdA (ks:List GKind) (f:GFinding) (s:GSpot):List GTerm→Bool
 | []=>true
 | a::r=>hold ks f s a&&holdA ks f s r
def holdO (ks:List GKind) (f:GFinding) (s:GSpot):List GTerm→Bool
 | []=>false
 | a::r=>hold ks f s a||holdO ks f s r
end
theorem hold_eq (ks:List GKind) (f:GFinding) (s:GSpot) (x:GTerm):hold ks f s x=if x.Op=9 then !holdA ks f s x.Kids else if x.Op=10 then holdA ks f s x.Kids else if x.Op=11 then holdO ks f s x.Kids else leafH ks f s x.Op x.Text x.Number x.Print:=by
 cases x;simp only [hold]
theorem holdA_iff {ks:List GKind} {f:GFinding} {s:GSpot}:∀{l:List GTerm},holdA ks f s l=true↔∀k∈l,hold ks f s k=true
 | []=>by simp [holdA]
 | a::r=>by simp [holdA,holdA_iff (l:=r)]
theorem holdO_iff {ks:List GKind} {f:GFinding} {s:GSpot}:∀{l:List GTerm},holdO ks f s l=true↔∃k∈l,hold ks f s k=true
 | []=>by simp [holdO]
 | a::r=>by simp [holdO,holdO_iff (l:=r)]
theorem pre_eq (s p:Str):F_j s p=some (decide (s.take p.length=p)):=by
 refine Ok.eq ?_
 unfold F_j F_p
 refine Ok.bind (Ok.jn (P:=fun b=>b=decide (s.take p.length=p)) (Ok.ite (fun c=>?_) fun c=>?_) fun b hb=>Ok.ret hb) fun y hy=>Ok.ret hy
 ·have c:=of_decide_eq_true c
  exact Ok.chk (inc_iff.2 ⟨by omega,by omega,by omega⟩) (Ok.ret (by rw [Int.toNat_natCast]))
 ·have c:=of_decide_eq_false c
  refine Ok.ret (decide_eq_false fun h=>?_).symm
  have:=congrArg List.length h
  rw [List.length_take] at this
  omega
theorem suf_eq {s p:Str} (hs:s.length≤1000000):F_r s p=some (decide (s.drop (s.length - p.length)=p)):=by
 refine Ok.eq ?_
 unfold F_r F_q
 refine Ok.bind (Ok.jn (P:=fun b=>b=decide (s.drop (s.length - p.length)=p)) (Ok.ite (fun c=>?_) fun c=>?_) fun b hb=>Ok.ret hb) fun y hy=>Ok.ret hy
 ·have c:=of_decide_eq_true c
  have e:((s.length:Int) - (p.length:Int)).toNat=s.length - p.length:=by omega
  exact Ok.chk (in64_s (by omega) (by omega)) (Ok.chk (inc_iff.2 ⟨by omega,by omega,by omega⟩) (Ok.ret (by rw [e])))
 ·have c:=of_decide_eq_false c
  refine Ok.ret (decide_eq_false fun h=>?_).symm
  have:=congrArg List.length h
  rw [List.length_drop] at this
  omega
open Classical in
theorem holds_ok (ks:List GKind) (f:GFinding) (s:GSpot) (hs:s.Place.Path.length≤1000000):∀(x:GTerm) (m:Nat),5*x.hgt≤m→Rgt x→Ok (FR_1 m x ks f s) (·=hold ks f s x):=by
 refine GTerm.ind fun x ih m hm hx=>?_
 have hp:=hgt_pos x
 obtain ⟨m,rfl⟩:∃n,m=n+5:=⟨m - 5,by omega⟩
 have h1:∀k∈x.Kids,FR_0 (m+1) k ks f s=some (hold ks f s k):=fun k hk=>by
  rw [FR_0,(ih k hk m (by have:=kid_hgt hk;omega) (hx.kid hk)).eq];rfl
 have h1':∀k∈x.Kids,FR_0 (m+2) k ks f s=some (hold ks f s k):=fun k hk=>by
  rw [FR_0,(ih k hk (m+1) (by have:=kid_hgt hk;omega) (hx.kid hk)).eq];rfl
 have h1'':∀k∈x.Kids,FR_0 (m+4) k ks f s=some (hold ks f s k):=fun k hk=>by
  rw [FR_0,(ih k hk (m+3) (by have:=kid_hgt hk;omega) (hx.kid hk)).eq];rfl
 rw [hold_eq,FR_1]
 by_cases c9:x.Op=9
 ·rw [if_pos c9]
  have hk:∃k,x.Kids=[k]:=by
   rcases hx.ok with ⟨h,_⟩|⟨h,_⟩|⟨h,_⟩|⟨_,_,_,_,h|h⟩
   ·omega
   ·omega
   ·omega
   ·exact List.length_eq_one_iff.1 h.2
   ·exact absurd c9 h.1
  obtain ⟨k,hk⟩:=hk
  have e:x.Kids.getD 0 default=k:=by rw [hk];rfl
  simp only [c9]
  refine Ok.ite (fun f=>by cases f) fun _=>Ok.ite (fun f=>by cases f) fun _=>Ok.ite (fun f=>by cases f) fun _=>Ok.ite (fun f=>by cases f) fun _=>Ok.ite (fun f=>by cases f) fun _=>Ok.ite (fun f=>by cases f) fun _=>Ok.ite (fun f=>by cases f) fun _=>Ok.ite (fun f=>by cases f) fun _=>Ok.ite (fun _=>?_) fun f=>by cases f
  refine Ok.chk (inb_iff.2 ⟨by omega,by rw [hk];simp⟩) ?_
  rw [e,h1'' k (by rw [hk];simp)]
  refine Ok.ret ?_
  rw [hk];simp [holdA]
 ·rw [if_neg c9]
  by_cases c10:x.Op=10
  ·rw [if_pos c10]
   have hc:FR_8 (m+4) x.Kids ks f s=some (decide (∃k∈x.Kids,hold ks f s k=false)):=by
    simp only [FR_8,FR_c]
    refine contains_b (fun k=>hold ks f s k=false) x.Kids fun k y hy=>?_
    rw [FR_b,h1 y hy]
    cases hold ks f s y<;>simp
   simp only [c10]
   refine Ok.ite (fun f=>by cases f) fun _=>Ok.ite (fun f=>by cases f) fun _=>Ok.ite (fun f=>by cases f) fun _=>Ok.ite (fun f=>by cases f) fun _=>Ok.ite (fun f=>by cases f) fun _=>Ok.ite (fun f=>by cases f) fun _=>Ok.ite (fun f=>by cases f) fun _=>Ok.ite (fun f=>by cases f) fun _=>Ok.ite (fun f=>by cases f) fun _=>Ok.ite (fun _=>?_) fun f=>by cases f
   rw [hc]
   refine Ok.ret ?_
   rw [Bool.eq_iff_iff,holdA_iff]
   simp only [Bool.not_eq_true',decide_eq_false_iff_not]
   exact ⟨fun h k hk=>by
    cases e:hold ks f s k with
    | true=>rfl
    | false=>exact absurd ⟨k,hk,e⟩ h,fun h ⟨k,hk,e⟩=>by rw [h k hk] at e;cases e⟩
  ·rw [if_neg c10]
   by_cases c11:x.Op=11
   ·rw [if_pos c11]
    have hc:FR_9 (m+4) x.Kids ks f s=some (decide (∃k∈x.Kids,hold ks f s k=true)):=by
     simp only [FR_9,FR_d]
     refine contains_b (fun k=>hold ks f s k=true) x.Kids fun k y hy=>?_
     rw [h1' y hy]
     cases hold ks f s y<;>simp
    simp only [c11]
    refine Ok.ite (fun f=>by cases f) fun _=>Ok.ite (fun f=>by cases f) fun _=>Ok.ite (fun f=>by cases f) fun _=>Ok.ite (fun f=>by cases f) fun _=>Ok.ite (fun f=>by cases f) fun _=>Ok.ite (fun f=>by cases f) fun _=>Ok.ite (fun f=>by cases f) fun _=>Ok.ite (fun f=>by cases f) fun _=>Ok.ite (fun f=>by cases f) fun _=>Ok.ite (fun f=>by cases f) fun _=>?_
    rw [hc]
    refine Ok.ret ?_
    rw [Bool.eq_iff_iff,holdO_iff]
    simp only [decide_eq_true_eq]
   ·rw [if_neg c11]
    have ho:x.Op=1∨x.Op=2∨x.Op=3∨x.Op=4∨x.Op=5∨x.Op=6∨x.Op=7∨x.Op=8:=by
     rcases hx.ok with ⟨h,_⟩|⟨h,_⟩|⟨h,_⟩|⟨h,_⟩<;>omega
    unfold leafH
    refine Ok.ite (fun c=>?_) fun c=>?_
    ·rw [if_pos (of_decide_eq_true c)]
     refine Ok.ite (fun c1=>Ok.ite (fun c2=>Ok.chk (inb_iff.2 ⟨of_decide_eq_true c1,of_decide_eq_true c2⟩) (Ok.ret ?_)) fun c2=>Ok.ret ?_) fun c1=>Ok.ret ?_
     ·exact decide_eq_decide.2 ⟨fun h=>⟨of_decide_eq_true c1,of_decide_eq_true c2,h⟩,fun h=>h.2.2⟩
     ·exact (decide_eq_false fun h=>(of_decide_eq_false c2) h.2.1).symm
     ·exact (decide_eq_false fun h=>(of_decide_eq_false c1) h.1).symm
    ·rw [if_neg (of_decide_eq_false c)]
     refine Ok.ite (fun c=>?_) fun c=>?_
     ·rw [if_pos (of_decide_eq_true c),pre_eq];exact Ok.ret rfl
     ·rw [if_neg (of_decide_eq_false c)]
      refine Ok.ite (fun c=>?_) fun c=>?_
      ·rw [if_pos (of_decide_eq_true c),suf_eq hs];exact Ok.ret rfl
      ·rw [if_neg (of_decide_eq_false c)]
       refine Ok.ite (fun c=>?_) fun c=>?_
       ·rw [if_pos (of_decide_eq_true c)];exact Ok.ret rfl
       ·rw [if_neg (of_decide_eq_false c)]
        refine Ok.ite (fun c=>?_) fun c=>?_
        ·rw [if_pos (of_decide_eq_true c)];exact Ok.ret rfl
        ·rw [if_neg (of_decide_eq_false c)]
         refine Ok.ite (fun c=>?_) fun c=>?_
         ·rw [if_pos (of_decide_eq_true c)]
          refine Ok.jn (P:=fun b=>b=decide (s.From≤s.To∧IntKind.wrap .u64 x.Number≤IntKind.wrap .u64 (IntKind.wrap .u64 s.To - IntKind.wrap .u64 s.From))) (Ok.ite (fun c1=>Ok.ret ?_) fun c1=>Ok.ret ?_) fun b hb=>Ok.ret hb
          ·exact decide_eq_decide.2 ⟨fun h=>⟨of_decide_eq_true c1,h⟩,fun h=>h.2⟩
          ·exact (decide_eq_false fun h=>(of_decide_eq_false c1) h.1).symm
         ·rw [if_neg (of_decide_eq_false c)]
          refine Ok.ite (fun c=>?_) fun c=>?_
          ·rw [if_pos (of_decide_eq_true c)];exact Ok.ret rfl
          ·rw [if_neg (of_decide_eq_false c)]
           have c:=of_decide_eq_false c
           refine Ok.ite (fun c=>Ok.ret rfl) fun c8=>?_
           have c8:=of_decide_eq_false c8
           simp only [decide_eq_false_iff_not] at *
           omega
theorem holds_eq {ks:List GKind} {f:GFinding} {s:GSpot} (hs:s.Place.Path.length≤1000000) {x:GTerm} (hx:Rgt x):F_1 x ks f s=some (hold ks f s x):=lim_of ⟨5*x.hgt,fun m hm=>(holds_ok ks f s hs x m hm hx).eq⟩
theorem Holds_eq {ks:List GKind} {f:GFinding} {i:Int} (h0:0≤i) (h1:i<f.Where.length) (hs:(f.Where.getD i.toNat default).Place.Path.length≤1000000) {x:GTerm} (hx:PV x):F_h x ks f i=some (hold ks f (f.Where.getD i.toNat default) x):=by
 refine Ok.eq ?_
 unfold F_h
 refine Ok.ite (fun _=>Ok.ite (fun _=>?_) fun c=>absurd h1 (of_decide_eq_false c)) fun c=>absurd h0 (of_decide_eq_false c)
 rw [term_eq,err_zero.2 hx,Option.bind_some]
 refine Ok.ite (fun _=>Ok.chk (inb_iff.2 ⟨h0,h1⟩) ?_) fun f=>by cases f
 rw [holds_eq hs hx.rgt]
 exact Ok.ret rfl
end Go.Ab
namespace Go.Ab
open Go.Proofs
def okc (c:UInt8):Prop:=33≤c.toNat∧c.toNat≤126∧c.toNat≠34
theorem pv_leaf {x:GTerm} (hk:x.Kids=[]) (h:okN x):PV x:=by
 refine ⟨?_,?_,.mk x h (by rw [hk];simp)⟩
 ·rw [cnt_eq,hk];simp [GTerm.cnts]
 ·rw [hgt_eq,hk];simp [GTerm.hgts]
theorem exact_part {s:Str} (h1:1≤s.length) (h2:s.length≤30):Ok (loop F_1i (s,0)) fun r=>qP r∧r.length≤30:=by
 refine Ok.loop (Q:=fun r=>qP r∧r.length≤30) (fun x:Str×Int=>1≤x.1.length∧x.1.length≤30∧0≤x.2∧x.2≤30∧∀j:Nat,(j:Int)<x.2→j<x.1.length→okc (x.1.getD j 0)) (fun x=>(30 - x.2).toNat) (fun x hx=>?_) (s,0) ⟨h1,h2,by dsimp only;omega,by dsimp only;omega,fun j hj=>by dsimp only at hj;omega⟩
 obtain ⟨p,i⟩:=x
 obtain ⟨q1,q2,q3,q4,q5⟩:=hx
 dsimp only at q1 q2 q3 q4 q5
 unfold F_1i
 dsimp only
 refine Ok.ite (fun c=>?_) fun c=>?_
 ·have c:=of_decide_eq_true c
  have hi:inb i p.length=true:=inb_iff.2 ⟨q3,c⟩
  refine Ok.jn (P:=fun j:Str=>(j=p∧okc (p.getD i.toNat 0))∨j=[100,111,99]) (Ok.chk hi (Ok.jn (P:=fun b=>b=decide ((p.getD i.toNat 0).toNat<33∨126<(p.getD i.toNat 0).toNat)) (Ok.ite (fun c1=>Ok.ret ?_) fun c1=>Ok.chk hi (Ok.ret ?_)) fun b hb=>?_)) fun j hj=>?_
  ·have c1:=of_decide_eq_true c1
   exact (decide_eq_true (.inl (by omega))).symm
  ·have c1:=of_decide_eq_false c1
   exact decide_eq_decide.2 ⟨fun h=>.inr (by omega),fun h=>by omega⟩
  ·subst hb
   refine Ok.jn (P:=fun b=>b=decide ((p.getD i.toNat 0).toNat<33∨126<(p.getD i.toNat 0).toNat∨(p.getD i.toNat 0).toNat=34)) (Ok.ite (fun c1=>Ok.ret ?_) fun c1=>Ok.chk hi (Ok.ret ?_)) fun b hb=>?_
   ·have c1:=of_decide_eq_true c1
    exact (decide_eq_true (by omega)).symm
   ·have c1:=of_decide_eq_false c1
    exact decide_eq_decide.2 ⟨fun h=>.inr (.inr (by omega)),fun h=>by omega⟩
   ·subst hb
    refine Ok.ite (fun c1=>Ok.ret (.inr rfl)) fun c1=>Ok.ret (.inl ⟨rfl,?_⟩)
    have c1:=of_decide_eq_false c1
    unfold okc;omega
  ·refine Ok.chk (in64_s (by omega) (by omega)) (Ok.ret ?_)
   rcases hj with ⟨rfl,hc⟩|rfl
   ·refine ⟨⟨q1,q2,by dsimp only;omega,by dsimp only;omega,fun k hk hk2=>?_⟩,by dsimp only;omega⟩
    dsimp only at hk hk2 ⊢
    by_cases e:(k:Int)=i
    ·have:i.toNat=k:=by omega
     rw [this] at hc;exact hc
    ·exact q5 k (by omega) hk2
   ·refine ⟨⟨by simp,by simp,by dsimp only;omega,by dsimp only;omega,fun k hk hk2=>?_⟩,by dsimp only;omega⟩
    dsimp only at hk2 ⊢
    have:k=0∨k=1∨k=2:=by simp at hk2;omega
    rcases this with rfl|rfl|rfl<;>(unfold okc;decide)
 ·have c:=of_decide_eq_false c
  refine Ok.ret ⟨⟨fun b hb=>?_,q1,by omega⟩,q2⟩
  obtain ⟨k,hk,rfl⟩:=List.getElem_of_mem hb
  have:=q5 k (by omega) hk
  rw [List.getD_eq_getElem?_getD,List.getElem?_eq_getElem hk] at this
  exact this
theorem wr64 {z:Int} (h0:0≤z) (h1:z≤1000000):IntKind.wrap .u64 z=z:=by
 rw [IntKind.wrap_u64];omega
theorem exact21 {tape:List Int} {path part:Str} {n m:Int}:F_1a tape path part n m=some true:=by
 refine Ok.eq ?_
 unfold F_1a
 refine Ok.jn (P:=fun p:Str=>p.length≤200) (Ok.ite (fun _=>Ok.ret (by simp)) fun c=>Ok.ret (by have:=of_decide_eq_false c;omega)) fun p hp=>?_
 refine Ok.jn (P:=fun q:Str=>1≤q.length∧q.length≤30) (Ok.grp (Ok.ite (fun _=>Ok.ret (by simp)) fun c=>Ok.ret ?_)) fun q hq=>?_
 ·simp only [Bool.or_eq_false_iff,decide_eq_false_iff_not] at c
  omega
 refine Ok.bind (exact_part hq.1 hq.2) fun r hr=>?_
 obtain ⟨hr,hrl⟩:=hr
 have hx0:0≤n % 2^6:=Int.emod_nonneg _ (by decide)
 have hx1:n % 2^6<64:=Int.emod_lt_of_pos _ (by decide)
 have hy0:0≤m % 2^6:=Int.emod_nonneg _ (by decide)
 have hy1:m % 2^6<64:=Int.emod_lt_of_pos _ (by decide)
 generalize n % 2^6=x at hx0 hx1 ⊢
 generalize m % 2^6=y at hy0 hy1 ⊢
 rw [wr64 hx0 (by omega),wr64 hy0 (by omega)]
 refine Ok.chk (strl_iff.2 (by omega)) (Ok.chk (in64_s (by omega) (by omega)) (Ok.chk (strl_iff.2 (by omega)) (Ok.chk (in64_s (by omega) (by omega)) ?_)))
 generalize hf:GFinding.mk 0 x [GSpot.mk (GPlace.mk x (p++r) x) [] 1 (1+x),GSpot.mk (GPlace.mk x (r++p) x) [] 1 (1+x)]=f
 have w0:f.Where.getD (0:Int).toNat default=GSpot.mk (GPlace.mk x (p++r) x) [] 1 (1+x):=by rw [←hf];rfl
 have w1:f.Where.getD (1:Int).toNat default=GSpot.mk (GPlace.mk x (r++p) x) [] 1 (1+x):=by rw [←hf];rfl
 have wl:f.Where.length=2:=by rw [←hf];rfl
 have wf:f.Fingerprint=x:=by rw [←hf]
 have H0:∀t,PV t→F_h t [] f 0=some (hold [] f (GSpot.mk (GPlace.mk x (p++r) x) [] 1 (1+x)) t):=fun t ht=>by
  rw [Holds_eq (by omega) (by rw [wl];decide) (by rw [w0];simp;omega) ht,w0]
 have H1:∀t,PV t→F_h t [] f 1=some (hold [] f (GSpot.mk (GPlace.mk x (r++p) x) [] 1 (1+x)) t):=fun t ht=>by
  rw [Holds_eq (by omega) (by rw [wl];decide) (by rw [w1];simp;omega) ht,w1]
 have p3:PV (GTerm.mk 3 r 0 0 []):=pv_leaf rfl (.inl ⟨.inr (.inr rfl),hr,rfl,rfl,rfl⟩)
 have p2:PV (GTerm.mk 2 r 0 0 []):=pv_leaf rfl (.inl ⟨.inr (.inl rfl),hr,rfl,rfl,rfl⟩)
 have p6:PV (GTerm.mk 6 [] y 0 []):=pv_leaf rfl (.inr (.inl ⟨.inr (.inr (.inl rfl)),rfl,hy0,by show y≤_;omega,rfl,rfl⟩))
 have p8:PV (GTerm.mk 8 [] y 0 []):=pv_leaf rfl (.inr (.inl ⟨.inr (.inr (.inr rfl)),rfl,hy0,by show y≤_;omega,rfl,rfl⟩))
 have p4:PV (GTerm.mk 4 [] y 0 []):=pv_leaf rfl (.inr (.inl ⟨.inl rfl,rfl,hy0,by show y≤_;omega,rfl,rfl⟩))
 have p7:PV (GTerm.mk 7 [] 0 y []):=pv_leaf rfl (.inr (.inr (.inl ⟨rfl,rfl,rfl,rfl⟩)))
 have e3:hold [] f (GSpot.mk (GPlace.mk x (p++r) x) [] 1 (1+x)) (GTerm.mk 3 r 0 0 [])=true:=by
  rw [hold_eq];simp [leafH]
 have e2:hold [] f (GSpot.mk (GPlace.mk x (r++p) x) [] 1 (1+x)) (GTerm.mk 2 r 0 0 [])=true:=by
  rw [hold_eq];simp [leafH]
 have e6:hold [] f (GSpot.mk (GPlace.mk x (p++r) x) [] 1 (1+x)) (GTerm.mk 6 [] y 0 [])=decide (y≤x):=by
  rw [hold_eq]
  show decide (1≤1+x∧IntKind.wrap .u64 y≤IntKind.wrap .u64 (IntKind.wrap .u64 (1+x) - IntKind.wrap .u64 1))=decide (y≤x)
  rw [wr64 hy0 (by omega),wr64 (z:=1+x) (by omega) (by omega),wr64 (z:=1) (by omega) (by omega),wr64 (z:=1+x - 1) (by omega) (by omega)]
  exact decide_eq_decide.2 ⟨fun h=>by omega,fun h=>by omega⟩
 have e8:hold [] f (GSpot.mk (GPlace.mk x (p++r) x) [] 1 (1+x)) (GTerm.mk 8 [] y 0 [])=decide (x<y):=by
  rw [hold_eq];simp [leafH]
 have e4:hold [] f (GSpot.mk (GPlace.mk x (p++r) x) [] 1 (1+x)) (GTerm.mk 4 [] y 0 [])=decide (x=y):=by
  rw [hold_eq];simp [leafH]
 have e7:hold [] f (GSpot.mk (GPlace.mk x (p++r) x) [] 1 (1+x)) (GTerm.mk 7 [] 0 y [])=decide (x=y):=by
  rw [hold_eq];simp [leafH,wf]
 rw [H0 _ p3,Option.bind_some,H1 _ p2,Option.bind_some,e3,e2]
 refine Ok.grp (Ok.ite (fun f=>by cases f) fun _=>?_)
 rw [H0 _ p6,Option.bind_some,e6]
 refine Ok.ite (fun f=>by simp at f) fun _=>?_
 rw [H0 _ p8,Option.bind_some,e8]
 refine Ok.ite (fun f=>by simp at f) fun _=>?_
 rw [H0 _ p4,Option.bind_some,e4]
 refine Ok.jn (P:=fun b=>b=true) (Ok.ite (fun _=>?_) fun f=>by simp at f) fun b hb=>?_
 ·rw [H0 _ p7,Option.bind_some,e7]
  exact Ok.ret (by simp)
 ·subst hb
  refine Ok.jn (P:=fun b=>b=true) (Ok.ite (fun _=>?_) fun f=>by cases f) fun b hb=>Ok.ret hb
  rw [awake21]
  exact Ok.ret rfl
theorem call21e {tape:List Int} {path part:Str} {n m:Int}:ACall Tryz.prog 6 [.sl (tape.map (V.int .i64)),.str path,.str part,.int .i64 n,.int .i64 m] [] (fun r H=>r=.bool true∧H=[]) :=
 Wq_1a.w exact21
end Go.Ab
