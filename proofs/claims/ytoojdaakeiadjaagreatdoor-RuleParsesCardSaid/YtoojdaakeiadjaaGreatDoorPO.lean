/- Rules: numbers of terms, depths, and which are right. -/
import Derived.Test.YtoojdaakeiadjaaGreatDoorLA
import Derived.Test.YtoojdaakeiadjaaGreatDoorAbHo
import Derived.Test.YtoojdaakeiadjaaGreatDoorAbMir
import Derived.Test.YtoojdaakeiadjaaGreatDoorLC
import Derived.Test.YtoojdaakeiadjaaGreatDoorAbStr
import Derived.Test.YtoojdaakeiadjaaGreatDoorLD
import Derived.Test.YtoojdaakeiadjaaGreatDoorMI
set_option linter.all false
set_option linter.all false
namespace Go.Ab
open Go.Proofs
theorem in64_s {n:Int} (h1:-1000000000000000≤n) (h2:n≤1000000000000000):in64 n=true:=in64_iff.2 ⟨by omega,by omega⟩
theorem room_s {n b:Nat} (h:n*b≤100000000):room n b=true:=room_iff.2 (by omega)
theorem len_at {α:Type} {l pre r:List α} {x:α} (hw:l=pre++x::r):pre.length<l.length:=by rw [hw];simp
theorem mem_at {α:Type} {l pre r:List α} {x:α} (hw:l=pre++x::r):x∈l:=by rw [hw];simp
mutual
def GTerm.hgt:GTerm→Nat
 | ⟨_,_,_,_,k⟩=>GTerm.hgts k+1
def GTerm.hgts:List GTerm→Nat
 | []=>0
 | a::r=>max (GTerm.hgt a) (GTerm.hgts r)
end
theorem hgt_eq (x:GTerm):x.hgt=GTerm.hgts x.Kids+1:=by cases x;simp only [GTerm.hgt]
theorem hgts_mem:∀{l:List GTerm} {k:GTerm},k∈l→k.hgt≤GTerm.hgts l
 | a::r,k,h=>by
  simp only [GTerm.hgts]
  rcases List.mem_cons.1 h with rfl|h
  ·omega
  ·have:=hgts_mem h;omega
theorem kid_hgt {x k:GTerm} (h:k∈x.Kids):k.hgt<x.hgt:=by rw [hgt_eq x];have:=hgts_mem h;omega
theorem hgt_pos (x:GTerm):1≤x.hgt:=by rw [hgt_eq];omega
theorem GTerm.ind {P:GTerm→Prop} (h:∀x,(∀k∈x.Kids,P k)→P x):∀x,P x:=by
 have:∀n (x:GTerm),x.hgt≤n→P x:=by
  intro n
  induction n with
  | zero=>intro x hx;have:=hgt_pos x;omega
  | succ n ih=>intro x hx;exact h x fun k hk=>ih k (by have:=kid_hgt hk;omega)
 exact fun x=>this x.hgt x (Nat.le_refl _)
mutual
def GTerm.cnt:GTerm→Int
 | ⟨_,_,_,_,k⟩=>GTerm.cnts k+1
def GTerm.cnts:List GTerm→Int
 | []=>0
 | a::r=>GTerm.cnt a+GTerm.cnts r
end
theorem cnt_eq (x:GTerm):x.cnt=GTerm.cnts x.Kids+1:=by cases x;simp only [GTerm.cnt]
theorem cnts_nn':∀{l:List GTerm},(∀k∈l,1≤k.cnt)→(l.length:Int)≤GTerm.cnts l
 | [],_=>by simp [GTerm.cnts]
 | a::r,h=>by
  have h1:=h a (by simp)
  have h2:=cnts_nn' (l:=r) fun k hk=>h k (by simp [hk])
  simp only [GTerm.cnts,List.length_cons];omega
theorem cnt_pos:∀x:GTerm,1≤x.cnt:=GTerm.ind fun x ih=>by rw [cnt_eq];have:=cnts_nn' ih;omega
theorem cnts_len (l:List GTerm):(l.length:Int)≤GTerm.cnts l:=cnts_nn' fun k _=>cnt_pos k
theorem cnts_append:∀a b:List GTerm,GTerm.cnts (a++b)=GTerm.cnts a+GTerm.cnts b
 | [],b=>by simp [GTerm.cnts]
 | x::r,b=>by simp only [List.cons_append,GTerm.cnts,cnts_append r b];omega
theorem cnts_mem {l:List GTerm} {k:GTerm} (h:k∈l):k.cnt≤GTerm.cnts l:=by
 obtain ⟨a,b,rfl⟩:=List.append_of_mem h
 have h1:=cnts_len a
 have h2:=cnts_len b
 rw [cnts_append];simp only [GTerm.cnts];omega
theorem kid_cnt {x k:GTerm} (h:k∈x.Kids):k.cnt<x.cnt:=by rw [cnt_eq x];have:=cnts_mem h;omega
theorem kids_cnt (x:GTerm):(x.Kids.length:Int)<x.cnt:=by rw [cnt_eq x];have:=cnts_len x.Kids;omega
theorem hgt_cnt:∀x:GTerm,(x.hgt:Int)≤x.cnt:=GTerm.ind fun x ih=>by
 have:∀l:List GTerm,(∀k∈l,(k.hgt:Int)≤k.cnt)→(GTerm.hgts l:Int)≤GTerm.cnts l:=by
  intro l
  induction l with
  | nil=>intro _;simp [GTerm.hgts,GTerm.cnts]
  | cons a r ih =>
   intro h
   have h1:=h a (by simp)
   have h2:=ih fun k hk=>h k (by simp [hk])
   have h3:=cnts_len r
   have h4:=cnt_pos a
   simp only [GTerm.hgts,GTerm.cnts];omega
 have:=this x.Kids ih
 rw [hgt_eq,cnt_eq];omega
theorem terms_ok:∀(x:GTerm) (m:Nat),x.hgt≤m→Ok (FR_7 m x) (·=min x.cnt 61):=by
 refine GTerm.ind fun x ih m hm=>?_
 cases m with
 | zero=>have:=hgt_pos x;omega
 | succ m =>
  simp only [FR_7]
  refine Ok.bind (Ok.forI (all:=x.Kids) (Q:=fun o=>o=if 1+GTerm.cnts x.Kids≤60 then .nx (1+GTerm.cnts x.Kids) else .ex 61) (fun pre s=>s=1+GTerm.cnts pre∧s≤60) x.Kids [] 0 1 rfl rfl ⟨by simp [GTerm.cnts],by omega⟩ (fun pre k r s hw hs=>?_) fun s hs=>?_) fun o ho=>?_
  ·obtain ⟨hs,hs2⟩:=hs
   have hk:=mem_at hw
   have h1:=cnts_len pre
   have h2:=cnts_len r
   have h3:=cnt_pos k
   have hc:GTerm.cnts x.Kids=GTerm.cnts pre+(k.cnt+GTerm.cnts r):=by rw [hw,cnts_append];simp only [GTerm.cnts]
   refine Ok.bind (ih k hk m (by have:=kid_hgt hk;omega)) fun y hy=>?_
   subst hy
   refine Ok.chk (in64_s (by omega) (by omega)) (Ok.ite (fun c=>?_) fun c=>?_)
   ·have c:=of_decide_eq_true c
    refine Ok.ret ?_
    show Fl.ex 61=_
    rw [if_neg (by omega)]
   ·have c:=of_decide_eq_false c
    exact Ok.ret ⟨by rw [cnts_append];simp only [GTerm.cnts];omega,by omega⟩
  ·rw [if_pos (by omega),←hs.1]
  ·subst ho
   rw [cnt_eq]
   by_cases c:1+GTerm.cnts x.Kids≤60
   ·rw [if_pos c];exact Ok.ret (by show _=min _ _;omega)
   ·rw [if_neg c];exact Ok.ret (by show _=min _ _;omega)
theorem terms_eq (x:GTerm):F_7 x=some (min x.cnt 61):=lim_of ⟨x.hgt,fun m hm=>(terms_ok x m hm).eq⟩
theorem hgts_append:∀a b:List GTerm,GTerm.hgts (a++b)=max (GTerm.hgts a) (GTerm.hgts b)
 | [],b=>by simp [GTerm.hgts]
 | x::r,b=>by simp only [List.cons_append,GTerm.hgts,hgts_append r b];omega
theorem depth_ok:∀(x:GTerm) (m:Nat) (left:Int),x.hgt≤m→0≤left→left≤1000→Ok (FR_8 m x left) (·=min (x.hgt:Int) (left+1)):=by
 refine GTerm.ind fun x ih m left hm h0 h1=>?_
 cases m with
 | zero=>have:=hgt_pos x;omega
 | succ m =>
  have hp:=hgt_pos x
  simp only [FR_8]
  refine Ok.ite (fun c=>?_) fun c=>?_
  ·have c:=of_decide_eq_true c
   exact Ok.ret (by show _=min _ _;omega)
  ·have c:=of_decide_eq_false c
   refine Ok.bind (Ok.foldI (all:=x.Kids) (Q:=fun o=>o=min (GTerm.hgts x.Kids:Int) left) (fun pre s=>s=min (GTerm.hgts pre:Int) left) x.Kids [] 0 0 rfl rfl (by simp only [GTerm.hgts];omega) (fun pre k r s hw hs=>?_) fun s hs=>hs) fun o ho=>?_
   ·have hk:=mem_at hw
    refine Ok.chk (in64_s (by omega) (by omega)) (Ok.bind (ih k hk m (left - 1) (by have:=kid_hgt hk;omega) (by omega) (by omega)) fun y hy=>Ok.ret ?_)
    subst hy hs
    rw [hgts_append];simp only [GTerm.hgts];omega
   ·subst ho
    refine Ok.chk (in64_s (by omega) (by omega)) (Ok.ret ?_)
    rw [hgt_eq];omega
theorem depth_eq (x:GTerm):F_8 x 20=some (min (x.hgt:Int) 21):=lim_of ⟨x.hgt,fun m hm=>(depth_ok x m 20 hm (by omega) (by omega)).eq⟩
theorem contains_go {α:Type} {body:Int→α→Unit→Option (Fl Unit Int)} (p:α→Prop) [DecidablePred p]:∀(xs:List α) (k:Int),0≤k→(∀k x,x∈xs→body k x ()=some (if p x then .ex k else .nx ())) →
  ∃o,forL body xs k ()=some o∧((∃x∈xs,p x)→∃r,o=.ex r∧0≤r)∧((∀x∈xs,¬p x)→o=.nx ())
 | [],k,hk,h=>⟨.nx (),rfl,fun ⟨x,hx,_⟩=>by simp at hx,fun _=>rfl⟩
 | x::r,k,hk,h=>by
  simp only [forL,h k x (by simp)]
  by_cases c:p x
  ·simp only [if_pos c,Option.bind_some,Fl_ex]
   exact ⟨_,rfl,fun _=>⟨k,rfl,hk⟩,fun hn=>absurd c (hn x (by simp))⟩
  ·simp only [if_neg c,Option.bind_some,Fl_nx]
   obtain ⟨o,h1,h2,h3⟩:=contains_go p r (k+1) (by omega) fun k y hy=>h k y (by simp [hy])
   refine ⟨o,h1,fun ⟨y,hy,hp⟩=>?_,fun hn=>h3 fun y hy=>hn y (by simp [hy])⟩
   rcases List.mem_cons.1 hy with rfl|hy
   ·exact absurd hp c
   ·exact h2 ⟨y,hy,hp⟩
open Classical in
theorem contains_b {α:Type} {body:Int→α→Unit→Option (Fl Unit Int)} (p:α→Prop) (xs:List α) [Decidable (∃x∈xs,p x)] (h:∀k x,x∈xs→body k x ()=some (if p x then .ex k else .nx ())) :
  (((forL body xs 0 ()).bind fun o=>o.elim (fun _=>some (-1)) fun r=>some r).bind fun y=>some (decide (0≤y)))=some (decide (∃x∈xs,p x)):=by
 obtain ⟨o,h1,h2,h3⟩:=contains_go p xs 0 (Int.le_refl 0) h
 rw [h1]
 by_cases c:∃x∈xs,p x
 ·obtain ⟨r,rfl,hr⟩:=h2 c
  simp only [Option.bind_some,Fl_ex,decide_eq_true hr,decide_eq_true c]
 ·have:=h3 fun x hx hp=>c ⟨x,hx,hp⟩
  subst this
  simp only [Option.bind_some,Fl_nx,decide_eq_false c]
  rfl
def qP (s:Str):Prop:=(∀c∈s,33≤c.toNat∧c.toNat≤126∧c.toNat≠34)∧1≤s.length∧s.length≤40
def okN (x:GTerm):Prop :=
 ((x.Op=1∨x.Op=2∨x.Op=3)∧qP x.Text∧x.Number=0∧x.Print=0∧x.Kids=[]) ∨
 ((x.Op=4∨x.Op=5∨x.Op=6∨x.Op=8)∧x.Text=[]∧0≤x.Number∧x.Number≤1099511627776∧x.Print=0∧x.Kids=[]) ∨
 (x.Op=7∧x.Text=[]∧x.Number=0∧x.Kids=[]) ∨
 ((x.Op=9∨x.Op=10∨x.Op=11)∧x.Text=[]∧x.Number=0∧x.Print=0∧((x.Op=9∧x.Kids.length=1)∨(x.Op≠9∧2≤x.Kids.length)))
inductive Rgt:GTerm→Prop
 | mk (x:GTerm) (h:okN x) (hk:∀k∈x.Kids,Rgt k):Rgt x
theorem Rgt.ok {x:GTerm} (h:Rgt x):okN x:=by cases h;assumption
theorem Rgt.kid {x k:GTerm} (h:Rgt x) (hk:k∈x.Kids):Rgt k:=by cases h with|mk _ _ h=>exact h k hk
open Classical in
theorem quot_eq (s:Str):F_1i s=some (decide (qP s)):=by
 refine Ok.eq ?_
 unfold F_1i
 refine Ok.bind (Ok.forI (all:=s) (Q:=Fl.elim (fun _=>∀c∈s,33≤c.toNat∧c.toNat≤126∧c.toNat≠34) fun r=>r=false∧¬qP s) (fun pre _=>∀c∈pre,33≤c.toNat∧c.toNat≤126∧c.toNat≠34) s [] 0 () rfl rfl (by simp) (fun pre c r _ hw hs=>?_) fun _ hs=>hs) fun o ho=>?_
 ·unfold F_2b
  refine Ok.grp (Ok.grp (Ok.ite (fun c1=>Ok.ret ⟨rfl,fun hq=>?_⟩) fun c1=>Ok.ret ?_))
  ·have:=hq.1 c (mem_at hw)
   simp only [Bool.or_eq_true,decide_eq_true_eq] at c1
   omega
  ·simp only [Bool.or_eq_false_iff,decide_eq_false_iff_not] at c1
   intro d hd
   rcases List.mem_append.1 hd with hd|hd
   ·exact hs d hd
   ·cases List.mem_singleton.1 hd
    omega
 ·cases o with
  | ex r =>
   obtain ⟨rfl,h⟩:=ho
   exact Ok.ret (decide_eq_false h).symm
  | nx u =>
   refine Ok.grp (Ok.ret ?_)
   rw [Bool.eq_iff_iff]
   simp only [Bool.and_eq_true,decide_eq_true_eq]
   exact ⟨fun h=>⟨ho,by omega,by omega⟩,fun h=>⟨by have:=h.2.1;omega,by have:=h.2.2;omega⟩⟩
theorem len0 {α:Type} {l:List α}:(l.length:Int)=0↔l=[]:=by
 rw [←List.length_eq_zero_iff];omega
open Classical in
theorem right_ok:∀(x:GTerm) (m:Nat),4*x.hgt≤m→Ok (FR_9 m x) (·=decide (Rgt x)):=by
 refine GTerm.ind fun x ih m hm=>?_
 have hp:=hgt_pos x
 obtain ⟨m,rfl⟩:∃n,m=n+4:=⟨m - 4,by omega⟩
 have hc:FR_t (m+3) x.Kids=some (decide (∃k∈x.Kids,¬Rgt k)):=by
  simp only [FR_t,FR_u]
  refine contains_b (fun k=>¬Rgt k) x.Kids fun k y hy=>?_
  have:=(ih y hy m (by have:=kid_hgt hy;omega)).eq
  simp only [FR_j,this,Option.bind_some]
  by_cases c:Rgt y<;>simp [c]
 simp only [FR_9]
 refine Ok.jn (P:=fun b=>b=decide (okN x)) ?_ fun y hy=>?_
 ·refine Ok.jn (P:=fun b=>b=decide (x.Op=1∨x.Op=2∨x.Op=3)) (Ok.ite (fun c=>Ok.ret (by simpa using .inl (of_decide_eq_true c))) fun c=>Ok.ite (fun c2=>Ok.ret (by simpa using .inr (.inl (of_decide_eq_true c2)))) fun c2=>Ok.ret (by simp at c c2;simp [c,c2])) fun b hb=>?_
  subst hb
  refine Ok.ite (fun c=>?_) fun c=>?_
  ·have c:=of_decide_eq_true c
   rw [quot_eq,Option.bind_some]
   refine Ok.grp (Ok.grp (Ok.grp (Ok.ret ?_)))
   rw [Bool.eq_iff_iff]
   simp only [Bool.and_eq_true,decide_eq_true_eq,len0]
   constructor
   ·rintro ⟨⟨⟨h1,h2⟩,h3⟩,h4⟩;exact .inl ⟨c,h1,h2,h3,h4⟩
   ·rintro (h|⟨h,_⟩|⟨h,_⟩|⟨h,_⟩)
    ·exact ⟨⟨⟨h.2.1,h.2.2.1⟩,h.2.2.2.1⟩,h.2.2.2.2⟩
    all_goals omega
  ·have c:=of_decide_eq_false c
   refine Ok.jn (P:=fun b=>b=decide (x.Op=4∨x.Op=5∨x.Op=6∨x.Op=8)) (Ok.ite (fun c=>Ok.ret (by simpa using .inl (of_decide_eq_true c))) fun c=>Ok.ite (fun c2=>Ok.ret (by simpa using .inr (.inl (of_decide_eq_true c2)))) fun c2=>Ok.ite (fun c3=>Ok.ret (by simpa using .inr (.inr (.inl (of_decide_eq_true c3))))) fun c3=>Ok.ret (by simp at c c2 c3;simp [c,c2,c3])) fun b hb=>?_
   subst hb
   refine Ok.ite (fun c1=>?_) fun c1=>?_
   ·have c1:=of_decide_eq_true c1
    refine Ok.grp (Ok.grp (Ok.grp (Ok.grp (Ok.ret ?_))))
    rw [Bool.eq_iff_iff]
    simp only [Bool.and_eq_true,decide_eq_true_eq,len0]
    constructor
    ·rintro ⟨⟨⟨⟨h1,h2⟩,h3⟩,h4⟩,h5⟩;exact .inr (.inl ⟨c1,h1,h2,h3,h4,h5⟩)
    ·rintro (⟨h,_⟩|h|⟨h,_⟩|⟨h,_⟩)
     ·omega
     ·exact ⟨⟨⟨⟨h.2.1,h.2.2.1⟩,h.2.2.2.1⟩,h.2.2.2.2.1⟩,h.2.2.2.2.2⟩
     all_goals omega
   ·have c1:=of_decide_eq_false c1
    refine Ok.ite (fun c2=>?_) fun c2=>?_
    ·have c2:=of_decide_eq_true c2
     refine Ok.grp (Ok.grp (Ok.ret ?_))
     rw [Bool.eq_iff_iff]
     simp only [Bool.and_eq_true,decide_eq_true_eq,len0]
     constructor
     ·rintro ⟨⟨h1,h2⟩,h3⟩;exact .inr (.inr (.inl ⟨c2,h1,h2,h3⟩))
     ·rintro (⟨h,_⟩|⟨h,_⟩|h|⟨h,_⟩)
      ·omega
      ·omega
      ·exact ⟨⟨h.2.1,h.2.2.1⟩,h.2.2.2⟩
      ·omega
    ·have c2:=of_decide_eq_false c2
     refine Ok.jn (P:=fun b=>b=decide (x.Op=9∨x.Op=10∨x.Op=11)) (Ok.ite (fun c=>Ok.ret (by simpa using .inl (of_decide_eq_true c))) fun c=>Ok.ite (fun c2=>Ok.ret (by simpa using .inr (.inl (of_decide_eq_true c2)))) fun c2=>Ok.ret (by simp at c c2;simp [c,c2])) fun b hb=>?_
     subst hb
     refine Ok.ite (fun c3=>?_) fun c3=>?_
     ·have c3:=of_decide_eq_true c3
      refine Ok.grp (Ok.grp (Ok.grp (Ok.ret ?_)))
      rw [Bool.eq_iff_iff]
      simp only [Bool.and_eq_true,Bool.or_eq_true,Bool.not_eq_true',decide_eq_true_eq,decide_eq_false_iff_not]
      constructor
      ·rintro ⟨⟨⟨h1,h2⟩,h3⟩,h4⟩
       refine .inr (.inr (.inr ⟨c3,h1,h2,h3,?_⟩))
       rcases h4 with h4|h4
       ·exact .inl ⟨h4.1,by omega⟩
       ·exact .inr ⟨h4.1,by omega⟩
      ·rintro (⟨h,_⟩|⟨h,_⟩|⟨h,_⟩|h)
       ·omega
       ·omega
       ·omega
       ·refine ⟨⟨⟨h.2.1,h.2.2.1⟩,h.2.2.2.1⟩,?_⟩
        rcases h.2.2.2.2 with h4|h4
        ·exact .inl ⟨h4.1,by omega⟩
        ·exact .inr ⟨h4.1,by omega⟩
     ·have c3:=of_decide_eq_false c3
      refine Ok.ret (decide_eq_false ?_).symm
      rintro (⟨h,_⟩|⟨h,_⟩|⟨h,_⟩|⟨h,_⟩)<;>omega
 ·subst hy
  refine Ok.jn (P:=fun b=>b=decide (Rgt x)) (Ok.ite (fun c=>?_) fun c=>?_) fun b hb=>Ok.ret hb
  ·have c:=of_decide_eq_true c
   rw [hc]
   refine Ok.ret ?_
   rw [Bool.eq_iff_iff]
   simp only [Bool.not_eq_true',decide_eq_false_iff_not,decide_eq_true_eq]
   exact ⟨fun h=>.mk x c fun k hk=>Classical.byContradiction fun hn=>h ⟨k,hk,hn⟩,fun h ⟨k,hk,hn⟩=>hn (h.kid hk)⟩
  ·have c:=of_decide_eq_false c
   exact Ok.ret (decide_eq_false fun h=>c h.ok).symm
open Classical in
theorem right_eq (x:GTerm):F_9 x=some (decide (Rgt x)):=lim_of ⟨4*x.hgt,fun m hm=>(right_ok x m hm).eq⟩
structure PV (x:GTerm):Prop where
 cnt:x.cnt≤60
 hgt:x.hgt≤20
 rgt:Rgt x
open Classical in
noncomputable def GTerm.err (x:GTerm):Int:=if 60<x.cnt then 3 else if 20<x.hgt then 9 else if ¬Rgt x then 1 else 0
open Classical in
theorem term_eq (x:GTerm):F_1a x=some x.err:=by
 refine Ok.eq ?_
 unfold F_1a GTerm.err
 rw [terms_eq,Option.bind_some]
 refine Ok.ite (fun c=>Ok.ret (by rw [if_pos (by have:=of_decide_eq_true c;omega)])) fun c=>?_
 have c:=of_decide_eq_false c
 rw [if_neg (by omega),depth_eq,Option.bind_some]
 refine Ok.ite (fun c=>Ok.ret (by rw [if_pos (by have:=of_decide_eq_true c;omega)])) fun c=>?_
 have c:=of_decide_eq_false c
 rw [if_neg (by omega),right_eq,Option.bind_some]
 refine Ok.ite (fun c=>Ok.ret (by rw [if_pos (by simpa using c)])) fun c=>Ok.ret (by rw [if_neg (by simpa using c)])
theorem err_zero {x:GTerm}:x.err=0↔PV x:=by
 classical
 unfold GTerm.err
 constructor
 ·intro h
  split at h
  ·omega
  ·split at h
   ·omega
   ·split at h
    ·omega
    ·rename_i h1 h2 h3
     exact ⟨by omega,by omega,Classical.byContradiction h3⟩
 ·rintro ⟨h1,h2,h3⟩
  rw [if_neg (by omega),if_neg (by omega),if_neg (fun h=>h h3)]
end Go.Ab
namespace Go.Ab
open Go.Proofs
def leafH (ks:List GKind) (f:GFinding) (s:GSpot) (o:Int) (t:Str) (n p:Int):Bool :=
 if o=1 then decide (0≤f.Kind∧f.Kind<ks.length∧(ks.getD f.Kind.toNat default).Name=t)
 else if o=2 then decide (s.Place.Path.take t.length=t)
 else if o=3 then decide (s.Place.Path.drop (s.Place.Path.length - t.length)=t)
 else if o=4 then decide (s.Place.Source=n)
 else if o=5 then decide (n≤s.Layers.length)
 else if o=6 then decide (s.From≤s.To∧IntKind.wrap .u64 n≤IntKind.wrap .u64 (IntKind.wrap .u64 s.To - IntKind.wrap .u64 s.From))
 else if o=7 then decide (f.Fingerprint=p)
 else decide (s.Place.Time<n)
mutual
def hold (ks:List GKind) (f:GFinding) (s:GSpot):GTerm→Bool
 | ⟨o,t,n,p,k⟩=>if o=9 then !holdA ks f s k else if o=10 then holdA ks f s k else if o=11 then holdO ks f s k else leafH ks f s o t n p
def holdA (ks:List GKind) (f:GFinding) (s:GSpot):List GTerm→Bool
 | []=>true
 | a::r=>hold ks f s a&&holdA ks f s r
def holdO (ks:List GKind) (f:GFinding) (s:GSpot):List GTerm→Bool
 | []=>false
 | a::r=>hold ks f s a||holdO ks f s r
end
theorem pre_eq (s p:Str):F_12 s p=some (decide (s.take p.length=p)):=by
 refine Ok.eq ?_
 unfold F_12 F_11
 refine Ok.bind (Ok.jn (P:=fun b=>b=decide (s.take p.length=p)) (Ok.ite (fun c=>?_) fun c=>?_) fun b hb=>Ok.ret hb) fun y hy=>Ok.ret hy
 ·have c:=of_decide_eq_true c
  exact Ok.chk (inc_iff.2 ⟨by omega,by omega,by omega⟩) (Ok.ret (by rw [Int.toNat_natCast]))
 ·have c:=of_decide_eq_false c
  refine Ok.ret (decide_eq_false fun h=>?_).symm
  have:=congrArg List.length h
  rw [List.length_take] at this
  omega
end Go.Ab
namespace Go.Ab
open Go.Proofs
theorem Le.loopL {σ ρ:Type} {f g:σ→Option (Fl σ ρ)} {s:σ} (h:∀s,Le (f s) (g s)):Le (Go.Ab.loop f s) (Go.Ab.loop g s):=fun r hr=>by
 obtain ⟨n,hn⟩:=loop_iter.1 hr
 exact loop_iter.2 ⟨n,Le.iter h n s r hn⟩
theorem Le.up {α:Type} {f:Nat→Option α} (h:∀n,Le (f n) (f (n+1))) {n m:Nat} (hm:n≤m):Le (f n) (f m):=by
 induction hm with
 | refl=>exact Le.refl
 | step _ ih=>exact fun r hr=>h _ r (ih r hr)
theorem Ok.lim {α:Type} {f:Nat→Option α} {Q:α→Prop} (h:∀n,Le (f n) (f (n+1))) (n:Nat) (hn:Ok (f n) Q):Ok (Go.Ab.lim f) Q:=by
 obtain ⟨y,e,hy⟩:=hn
 exact ⟨y,lim_of ⟨n,fun m hm=>Le.up h hm y e⟩,hy⟩
def TO (t:GTape):Prop:=0≤t.at_∧(t.L.length:Int)≤9223372036854775807
theorem nx_ok {t:GTape} {n:Int} (h:TO t) (hn:0<n):Ok (F_s t n) fun y=>0≤y.1∧y.1<n∧TO y.2:=by
 unfold F_s
 refine Ok.ite (fun c=>Ok.ret ⟨Int.le_refl 0,hn,h⟩) fun c=>?_
 have c':t.at_<t.L.length:=by simpa using c
 have h1:=h.1;have h2:=h.2
 refine Ok.chk (inb_iff.2 ⟨h.1,c'⟩) (Ok.chk (in64_iff.2 ⟨by omega,by omega⟩) (Ok.chk (divs_iff.2 ⟨Int.emod_nonneg _ (by decide),hn⟩) (Ok.ret ⟨Int.emod_nonneg _ (by omega),Int.emod_lt_of_pos _ hn,?_,h2⟩)))
 show 0≤t.at_+1
 omega
theorem btw_ok {t:GTape} {a b:Int} (h:TO t) (h1:-100000≤a) (h2:a≤b) (h3:b≤100000):Ok (F_z t a b) fun y=>a≤y.1∧y.1≤b∧TO y.2:=by
 unfold F_z
 refine Ok.chk (in64_s (by omega) (by omega)) (Ok.chk (in64_s (by omega) (by omega)) (Ok.bind (nx_ok h (by omega)) fun y hy=>Ok.chk (in64_s (by omega) (by omega)) (Ok.ret ⟨?_,?_,hy.2.2⟩)))
 ·show a≤a+y.1;omega
 ·show a+y.1≤b;omega
theorem pow3_pos (d:Nat):(1:Int)≤3^d:=by
 induction d with
 | zero=>decide
 | succ d ih=>rw [Int.pow_succ];omega
theorem hgts_le {c:Nat}:∀{l:List GTerm},(∀k∈l,k.hgt≤c)→GTerm.hgts l≤c
 | [],_=>by simp [GTerm.hgts]
 | a::r,h=>by
  have h1:=h a (by simp)
  have h2:=hgts_le (l:=r) fun k hk=>h k (by simp [hk])
  simp only [GTerm.hgts];omega
theorem mterm_mono:∀n (t:GTape) (d:Int),Le (FR_3 n t d) (FR_3 (n+1) t d)
 | 0,t,d=>by rw [FR_3];exact Le.non
 | n+1,t,d=>by
  have ih:=mterm_mono n
  rw [FR_3,FR_3]
  (repeat' (with_reducible first|exact Le.refl|assumption|exact ih _ _|(refine Le.bind ?_ fun _=>?_)|(refine Le.jn ?_ fun _=>?_)|(refine Le.grp fun _=>?_)|(refine Le.chk ?_)|(refine Le.cond ?_ ?_)|(refine Le.fl (fun _=>?_) fun _=>?_)|(refine Le.sum (fun _=>?_) fun _=>?_)|(refine Le.loopL fun _=>?_)))
inductive Wf:GTerm→Prop
 | mk (x:GTerm) (h0:0≤x.Print) (h1:x.Print<18446744073709551616) (hk:∀k∈x.Kids,Wf k):Wf x
structure gt (d:Nat) (x:GTerm):Prop where
 rgt:Rgt x
 wf:Wf x
 hgt:x.hgt≤d+1
 cnt:2*x.cnt+1≤3^(d+1)
theorem gt.up {d:Nat} {x:GTerm} (h:gt d x):gt (d+1) x:=by
 obtain ⟨h1,h4,h2,h3⟩:=h
 have:=pow3_pos (d+1)
 refine ⟨h1,h4,by omega,?_⟩
 rw [Int.pow_succ 3 (d+1)];omega
theorem gt.lift {x:GTerm}:∀{d:Nat},gt 0 x→gt d x
 | 0,h=>h
 | d+1,h=>(gt.lift h).up
theorem gt_leaf {x:GTerm} (hk:x.Kids=[]) (h:okN x) (hp:0≤x.Print∧x.Print<18446744073709551616):gt 0 x:=by
 refine ⟨.mk x h (by rw [hk];simp),.mk x hp.1 hp.2 (by rw [hk];simp),?_,?_⟩
 ·rw [hgt_eq,hk];simp [GTerm.hgts]
 ·rw [cnt_eq,hk];simp [GTerm.cnts]
theorem gt_node {e:Nat} {op:Int} {kids:List GTerm} (ho:okN (GTerm.mk op [] 0 0 kids)) (hk:∀k∈kids,gt e k) (hl:kids.length≤3):gt (e+1) (GTerm.mk op [] 0 0 kids):=by
 have p3:=pow3_pos (e+1)
 refine ⟨.mk _ ho fun k h=>(hk k h).rgt,.mk _ (by show (0:Int)≤0;omega) (by show (0:Int)<_;omega) fun k h=>(hk k h).wf,?_,?_⟩
 ·rw [hgt_eq]
  have:=hgts_le (c:=e+1) (l:=kids) fun k h=>(hk k h).hgt
  show GTerm.hgts kids+1≤_;omega
 ·rw [cnt_eq]
  show 2*(GTerm.cnts kids+1)+1≤_
  have h3:∀l:List GTerm,(∀k∈l,gt e k)→l.length≤3→2*GTerm.cnts l≤3*(3^(e+1) - 1):=by
   intro l h hl
   match l,h,hl with
   | [],_,_=>simp only [GTerm.cnts];omega
   | [a],h,_=>have h1:=(h a (by simp)).cnt;simp only [GTerm.cnts];omega
   | [a,b],h,_=>have h1:=(h a (by simp)).cnt;have h2:=(h b (by simp)).cnt;simp only [GTerm.cnts];omega
   | [a,b,c],h,_=>have h1:=(h a (by simp)).cnt;have h2:=(h b (by simp)).cnt;have h3:=(h c (by simp)).cnt;simp only [GTerm.cnts];omega
   | _::_::_::_::_,_,hl=>simp only [List.length_cons] at hl;omega
  have:=h3 kids hk hl
  rw [Int.pow_succ 3 (e+1)];omega
instance (s:Str):Decidable (qP s):=inferInstanceAs (Decidable (_∧_))
theorem kinds4:∀i,i<4→qP ([[107,105,110,100,48],[107,105,110,100,49],[112,108,97,105,110,48],[110,111,110,101]].getD i default):=by
 intro i hi
 have:i=0∨i=1∨i=2∨i=3:=by omega
 rcases this with rfl|rfl|rfl|rfl<;>decide
theorem paths6:∀i,i<6→qP ([[97],[49,58],[102,48],[100,111,99,115,47],[33,105,110],[50]].getD i default):=by
 intro i hi
 have:i=0∨i=1∨i=2∨i=3∨i=4∨i=5:=by omega
 rcases this with rfl|rfl|rfl|rfl|rfl|rfl<;>decide
theorem wrp {z:Int} (h0:0≤z) (h1:z≤1000000):IntKind.wrap .u64 z=z:=by
 rw [IntKind.wrap_u64];omega
theorem mterm_ok:∀(d m:Nat) (t:GTape),d<m→TO t→d≤100→Ok (FR_3 m t ((d:Int)+1)) fun y=>gt d y.1∧TO y.2:=by
 intro d
 induction d with
 | zero =>
  intro m t hm ht _
  obtain ⟨m,rfl⟩:∃n,m=n+1:=⟨m - 1,by omega⟩
  rw [FR_3]
  refine Ok.bind (btw_ok ht (by omega) (by omega) (by omega)) fun y hy=>?_
  refine Ok.jn (P:=fun j=>1≤j∧j≤8) (Ok.grp (Ok.ite (fun c=>?_) fun c=>Ok.ret ?_)) fun j hj=>?_
  ·simp only [Bool.and_eq_true,decide_eq_true_eq] at c
   exact Ok.chk (in64_s (by omega) (by omega)) (Ok.ret ⟨by omega,by omega⟩)
  ·simp at c;omega
  ·exact leafs hy.2.2 hj.1 hj.2 (fun _=>gt.lift) (by omega)
 | succ e ih =>
  intro m t hm ht he
  obtain ⟨m,rfl⟩:∃n,m=n+1:=⟨m - 1,by omega⟩
  have e1:((e+1:Nat):Int)+1 - 1=(e:Int)+1:=by omega
  have hrec:∀t,TO t→Ok (FR_3 m t ((e:Int)+1)) fun y=>gt e y.1∧TO y.2:=fun t h=>ih m t (by omega) h (by omega)
  rw [FR_3]
  simp only [e1]
  refine Ok.bind (btw_ok ht (by omega) (by omega) (by omega)) fun y hy=>?_
  refine Ok.jn (P:=fun j=>1≤j∧j≤11) (Ok.grp (Ok.ite (fun c=>?_) fun c=>Ok.ret ⟨hy.1,hy.2.1⟩)) fun j hj=>?_
  ·exact Ok.chk (in64_s (by omega) (by omega)) (Ok.ret ⟨by simp only [Bool.and_eq_true,decide_eq_true_eq] at c;omega,by omega⟩)
  ·by_cases c9:j=9
   ·subst c9
    refine Ok.ite (fun f=>by cases f) fun _=>Ok.jn (P:=fun b=>b=false) (Ok.ite (fun f=>by cases f) fun _=>Ok.ret rfl) fun b hb=>?_
    subst hb
    refine Ok.ite (fun f=>by cases f) fun _=>Ok.ite (fun f=>by cases f) fun _=>Ok.ite (fun _=>?_) fun f=>by cases f
    refine Ok.chk (in64_s (by omega) (by omega)) (Ok.bind (hrec _ hy.2.2) fun z hz=>Ok.ret ⟨?_,hz.2⟩)
    exact gt_node (.inr (.inr (.inr ⟨.inl rfl,rfl,rfl,rfl,.inl ⟨rfl,rfl⟩⟩))) (by simp;exact hz.1) (by simp)
   ·by_cases c10:j=10∨j=11
    ·have n1:decide (j=1)=false:=decide_eq_false (by omega)
     have n2:decide (j=2)=false:=decide_eq_false (by omega)
     have n3:decide (j=3)=false:=decide_eq_false (by omega)
     have n7:decide (j=7)=false:=decide_eq_false (by omega)
     have n9:decide (j=9)=false:=decide_eq_false c9
     rw [n1,n2,n3,n7,n9]
     refine Ok.ite (fun f=>by cases f) fun _=>Ok.jn (P:=fun b=>b=false) (Ok.ite (fun f=>by cases f) fun _=>Ok.ret rfl) fun b hb=>?_
     subst hb
     refine Ok.ite (fun f=>by cases f) fun _=>Ok.ite (fun f=>by cases f) fun _=>Ok.ite (fun f=>by cases f) fun _=>?_
     refine Ok.jn (P:=fun b=>b=true) (Ok.ite (fun _=>Ok.ret rfl) fun f=>Ok.ret (decide_eq_true (by have:=of_decide_eq_false f;omega))) fun b hb=>?_
     subst hb
     refine Ok.ite (fun _=>?_) fun f=>by cases f
     refine Ok.bind (btw_ok hy.2.2 (by omega) (by omega) (by omega)) fun n hn=>?_
     refine Ok.bind (Ok.loop (Q:=fun r:Int×List GTerm×GTape=>r.1=j∧(r.2.1.length:Int)=n.1∧(∀k∈r.2.1,gt e k)∧TO r.2.2) (fun x:Int×Int×List GTerm×GTape=>x.2.1=j∧0≤x.1∧x.1+x.2.2.1.length=n.1∧(∀k∈x.2.2.1,gt e k)∧TO x.2.2.2) (fun x=>x.1.toNat) (fun x hx=>?_) _ ⟨rfl,by omega,by simp,by simp,hn.2.2⟩) fun r hr=>Ok.ret ⟨?_,hr.2.2.2⟩
     ·obtain ⟨a,op,kids,t3⟩:=x
      obtain ⟨h1,h2,h3,h4,h5⟩:=hx
      dsimp only at h1 h2 h3 h4 h5
      subst h1
      refine Ok.ite (fun c=>?_) fun c=>?_
      ·have c:0<a:=of_decide_eq_true c
       refine Ok.chk (in64_s (by omega) (by omega)) (Ok.bind (hrec _ h5) fun z hz=>?_)
       refine Ok.chk (room_s (by simp;omega)) (Ok.chk (in64_s (by omega) (by omega)) (Ok.ret ⟨⟨rfl,by dsimp only;omega,by dsimp only;simp;omega,fun k hk=>?_,hz.2⟩,by dsimp only;omega⟩))
       rcases List.mem_append.1 hk with hk|hk
       ·exact h4 k hk
       ·cases List.mem_singleton.1 hk;exact hz.1
      ·have c:¬0<a:=of_decide_eq_false c
       exact Ok.ret ⟨rfl,by dsimp only;omega,h4,h5⟩
     ·obtain ⟨r1,r2,r3,r4⟩:=hr
      rw [r1]
      exact gt_node (.inr (.inr (.inr ⟨.inr c10,rfl,rfl,rfl,.inr ⟨by show j≠9;omega,by show 2≤r.2.1.length;omega⟩⟩))) r3 (by omega)
    ·exact leafs hy.2.2 hj.1 (by omega) (fun _=>gt.lift) (by omega)
where
 leafs {m d:Nat} {t:GTape} {j dd:Int} (ht:TO t) (h1:1≤j) (h2:j≤8) (lift:∀x,gt 0 x→gt d x) (hd:0≤dd):Ok (bif decide (j=1) then (F_s t 4).bind fun y27=>chk (inb y27.1 [[107,105,110,100,48],[107,105,110,100,49],[112,108,97,105,110,48],[110,111,110,101]].length) (some ((GTerm.mk j ([[107,105,110,100,48],[107,105,110,100,49],[112,108,97,105,110,48],[110,111,110,101]].getD ((y27.1).toNat) default) 0 0 []),y27.2)) else jn (α:=Bool) (bif decide (j=2) then some true else some (decide (j=3))) fun j28=>bif j28 then (F_s t 6).bind fun y29=>chk (inb y29.1 [[97],[49,58],[102,48],[100,111,99,115,47],[33,105,110],[50]].length) (some ((GTerm.mk j ([[97],[49,58],[102,48],[100,111,99,115,47],[33,105,110],[50]].getD ((y29.1).toNat) default) 0 0 []),y29.2)) else bif decide (j=7) then (F_s t 4).bind fun y30=>some ((GTerm.mk j [] 0 (IntKind.wrap .u64 y30.1) []),y30.2) else bif decide (j=9) then chk (in64 dd) ((FR_3 m t dd).bind fun y31=>some ((GTerm.mk j [] 0 0 [y31.1]),y31.2)) else jn (α:=Bool) (bif decide (j=10) then some true else some (decide (j=11))) fun j32=>bif j32 then (F_z t 2 3).bind fun y34=>(loop (fun (x41:Int×Int×(List GTerm)×GTape)=>(bif decide (0<x41.1) then chk (in64 dd) ((FR_3 m x41.2.2.2 dd).bind fun y45=>chk (room (x41.2.2.1.length+[y45.1].length) 64) (chk (in64 (x41.1 - 1)) (some (.nx ((x41.1 - 1),x41.2.1,(x41.2.2.1++[y45.1]),y45.2))))) else some (.ex (x41.2.1,x41.2.2.1,x41.2.2.2)):Option (Fl (Int×Int×(List GTerm)×GTape) (Int×(List GTerm)×GTape)))) (y34.1,j,[],y34.2)).bind fun r46=>some ((GTerm.mk r46.1 [] 0 0 r46.2.1),r46.2.2) else (F_s t 8).bind fun y47=>some ((GTerm.mk j [] y47.1 0 []),y47.2)) fun y=>gt d y.1∧TO y.2:=by
  refine Ok.ite (fun c=>Ok.bind (nx_ok ht (by omega)) fun y hy=>Ok.chk (inb_iff.2 ⟨hy.1,hy.2.1⟩) (Ok.ret ⟨lift _ (gt_leaf rfl (.inl ⟨.inl (of_decide_eq_true c),kinds4 _ (by have:=hy.1;have:=hy.2.1;omega),rfl,rfl,rfl⟩) ⟨by show (0:Int)≤0;omega,by show (0:Int)<_;omega⟩),hy.2.2⟩)) fun c1=>?_
  have c1:=of_decide_eq_false c1
  refine Ok.jn (P:=fun b=>b=decide (j=2∨j=3)) (Ok.ite (fun c=>Ok.ret (decide_eq_true (.inl (of_decide_eq_true c))).symm) fun c=>Ok.ret ?_) fun b hb=>?_
  ·have c:=of_decide_eq_false c
   exact decide_eq_decide.2 ⟨fun h=>.inr h,fun h=>by omega⟩
  ·subst hb
   refine Ok.ite (fun c=>Ok.bind (nx_ok ht (by omega)) fun y hy=>Ok.chk (inb_iff.2 ⟨hy.1,hy.2.1⟩) (Ok.ret ⟨lift _ (gt_leaf rfl (.inl ⟨.inr (of_decide_eq_true c),paths6 _ (by have:=hy.1;have:=hy.2.1;omega),rfl,rfl,rfl⟩) ⟨by show (0:Int)≤0;omega,by show (0:Int)<_;omega⟩),hy.2.2⟩)) fun c2=>?_
   have c2:=of_decide_eq_false c2
   refine Ok.ite (fun c=>Ok.bind (nx_ok ht (by omega)) fun y hy=>Ok.ret ⟨lift _ (gt_leaf rfl (.inr (.inr (.inl ⟨of_decide_eq_true c,rfl,rfl,rfl⟩))) (by show 0≤IntKind.wrap .u64 y.1∧IntKind.wrap .u64 y.1<_;rw [wrp hy.1 (by have:=hy.2.1;omega)];have:=hy.1;have:=hy.2.1;exact ⟨by omega,by omega⟩)),hy.2.2⟩) fun c7=>?_
   have c7:=of_decide_eq_false c7
   refine Ok.ite (fun c=>by have:=of_decide_eq_true c;omega) fun _=>?_
   refine Ok.jn (P:=fun b=>b=false) (Ok.ite (fun c=>by have:=of_decide_eq_true c;omega) fun _=>Ok.ret (decide_eq_false (by omega))) fun b hb=>?_
   subst hb
   refine Ok.ite (fun f=>by cases f) fun _=>Ok.bind (nx_ok ht (by omega)) fun y hy=>Ok.ret ⟨lift _ (gt_leaf rfl (.inr (.inl ⟨by show j=4∨j=5∨j=6∨j=8;omega,rfl,hy.1,by have:=hy.2.1;show y.1≤_;omega,rfl,rfl⟩)) ⟨by show (0:Int)≤0;omega,by show (0:Int)<_;omega⟩),hy.2.2⟩
theorem made_termW {t:GTape} (d:Nat) (hd:d≤2) (h:TO t):Ok (F_3 t ((d:Int)+1)) fun y=>Rgt y.1∧Wf y.1∧y.1.cnt≤13∧y.1.hgt≤3∧TO y.2:=by
 refine Ok.mono (Ok.lim (f:=fun n=>FR_3 n t ((d:Int)+1)) (fun n=>mterm_mono n t _) (d+1) (mterm_ok d (d+1) t (by omega) h (by omega))) fun y hy=>⟨hy.1.rgt,hy.1.wf,?_,?_,hy.2⟩
 ·have h3:=hy.1.cnt
  have:d=0∨d=1∨d=2:=by omega
  rcases this with rfl|rfl|rfl
  ·have e3:(3:Int)^(0+1)=3:=by decide
   omega
  ·have e3:(3:Int)^(1+1)=9:=by decide
   omega
  ·have e3:(3:Int)^(2+1)=27:=by decide
   omega
 ·have:=hy.1.hgt;omega
theorem num_mono:∀n (k:Int),Le (FR_4 n k) (FR_4 (n+1) k)
 | 0,k=>by rw [FR_4];exact Le.non
 | n+1,k=>by
  have ih:=num_mono n
  rw [FR_4,FR_4]
  (repeat' (with_reducible first|exact Le.refl|assumption|exact ih _|(refine Le.bind ?_ fun _=>?_)|(refine Le.chk ?_)|(refine Le.cond ?_ ?_)))
theorem num_small {n:Int} (h0:0≤n) (h1:n<10):F_4 n=some [u8 (48+((u8 n).toNat:Int))]:=by
 refine Ok.eq (Ok.lim (f:=fun m=>FR_4 m n) (fun m=>num_mono m n) 1 ?_)
 rw [FR_4]
 exact Ok.ite (fun _=>Ok.ret rfl) fun f=>absurd h1 (of_decide_eq_false f)
end Go.Ab
namespace Go.Ab
open Go.Proofs
theorem at_take {α:Type} [Inhabited α] {l:List α} {n:Nat} (h:n<l.length):∃k,k∈l∧l.getD n default=k∧l.take (n+1)=l.take n++[k] :=
 ⟨l[n],List.getElem_mem h,by rw [List.getD_eq_getElem?_getD,List.getElem?_eq_getElem h];rfl,List.take_succ_eq_append_getElem h⟩
theorem rcount_ok:∀(x:GTerm) (m:Nat) (h:Int),x.hgt≤m→0≤h→h≤60→Ok (FR_e m x h) (·=min (h+x.cnt) 61):=by
 refine GTerm.ind fun x ih m h hm h0 h1=>?_
 obtain ⟨m,rfl⟩:∃n,m=n+1:=⟨m - 1,by have:=hgt_pos x;omega⟩
 rw [FR_e]
 refine Ok.chk (in64_s (by omega) (by omega)) (Ok.bind (Ok.loop (Q:=fun r=>r=min (h+x.cnt) 61) (fun s:Int×Int=>∃n:Nat,s.2=(n:Int)∧n≤x.Kids.length∧(n:Int)≤61∧(n:Int)≤s.1∧s.1=min (h+1+GTerm.cnts (x.Kids.take n)) 61) (fun s=>(x.Kids.length - s.2).toNat) (fun s hs=>?_) _ ⟨0,rfl,by omega,by omega,by dsimp only;omega,by simp [GTerm.cnts];omega⟩) fun r hr=>Ok.ret hr)
 obtain ⟨s,i⟩:=s
 obtain ⟨n,e,h2,h3,h5,h4⟩:=hs
 dsimp only at e h4 h5
 subst e
 refine Ok.grp (Ok.ite (fun c=>?_) fun c=>?_)
 ·simp only [Bool.and_eq_true,decide_eq_true_eq] at c
  obtain ⟨k,hk,hg,ht⟩:=at_take (l:=x.Kids) (n:=n) (by omega)
  have hp:=cnt_pos k
  have hc:GTerm.cnts (x.Kids.take (n+1))=GTerm.cnts (x.Kids.take n)+k.cnt:=by rw [ht,cnts_append];simp [GTerm.cnts]
  have hl:=cnts_len (x.Kids.take n)
  refine Ok.chk (inb_iff.2 ⟨by dsimp only;omega,by dsimp only;omega⟩) ?_
  dsimp only
  rw [Int.toNat_natCast,hg]
  refine Ok.bind (ih k hk m s (by have:=kid_hgt hk;omega) (by omega) (by omega)) fun y hy=>Ok.chk (in64_s (by omega) (by omega)) (Ok.ret ⟨⟨n+1,rfl,by omega,by omega,by dsimp only;omega,?_⟩,by dsimp only;omega⟩)
  dsimp only
  rw [hc,hy];omega
 ·have c':¬((n:Int)<x.Kids.length∧s≤60):=by simpa only [Bool.and_eq_true,decide_eq_true_eq,←Bool.not_eq_true] using c
  refine Ok.ret ?_
  show s=_
  rw [cnt_eq]
  by_cases e:n=x.Kids.length
  ·subst e;rw [List.take_length] at h4;omega
  ·have hs:GTerm.cnts x.Kids=GTerm.cnts (x.Kids.take n)+GTerm.cnts (x.Kids.drop n):=by rw [←cnts_append,List.take_append_drop]
   have:=cnts_len (x.Kids.drop n)
   omega
theorem rcount_eq (x:GTerm):F_e x 0=some (min x.cnt 61):=lim_of ⟨x.hgt,fun m hm=>by
 have:=(rcount_ok x m 0 hm (by omega) (by omega)).eq
 rwa [Int.zero_add] at this⟩
theorem rdepth_ok:∀(x:GTerm) (m:Nat),x.hgt≤m→x.cnt≤1000→Ok (FR_f m x) (·=(x.hgt:Int)):=by
 refine GTerm.ind fun x ih m hm hc=>?_
 obtain ⟨m,rfl⟩:∃n,m=n+1:=⟨m - 1,by have:=hgt_pos x;omega⟩
 have hkl:=kids_cnt x
 have hh:=hgt_cnt x
 rw [FR_f]
 refine Ok.bind (Ok.loop (Q:=fun r=>r=(GTerm.hgts x.Kids:Int)) (fun s:Int×Int=>∃n:Nat,s.2=(n:Int)∧n≤x.Kids.length∧s.1=(GTerm.hgts (x.Kids.take n):Int)) (fun s=>(x.Kids.length - s.2).toNat) (fun s hs=>?_) _ ⟨0,rfl,by omega,by simp [GTerm.hgts]⟩) fun r hr=>?_
 ·obtain ⟨s,i⟩:=s
  obtain ⟨n,e,h2,h4⟩:=hs
  dsimp only at e h4
  subst e
  refine Ok.ite (fun c=>?_) fun c=>?_
  ·have c:(n:Int)<x.Kids.length:=of_decide_eq_true c
   obtain ⟨k,hk,hg,ht⟩:=at_take (l:=x.Kids) (n:=n) (by omega)
   refine Ok.chk (inb_iff.2 ⟨by dsimp only;omega,c⟩) ?_
   dsimp only
   rw [Int.toNat_natCast,hg]
   refine Ok.bind (ih k hk m (by have:=kid_hgt hk;omega) (by have:=kid_cnt hk;omega)) fun y hy=>Ok.chk (in64_s (by omega) (by omega)) (Ok.ret ⟨⟨n+1,rfl,by omega,?_⟩,by dsimp only;omega⟩)
   dsimp only
   rw [ht,hgts_append,hy,h4];simp only [GTerm.hgts];omega
  ·have c:¬(n:Int)<x.Kids.length:=of_decide_eq_false c
   have e:n=x.Kids.length:=by omega
   subst e
   rw [List.take_length] at h4
   exact Ok.ret h4
 ·have:=hgt_eq x
  exact Ok.chk (in64_s (by omega) (by omega)) (Ok.ret (by omega))
theorem rdepth_eq {x:GTerm} (hc:x.cnt≤1000):F_f x=some (x.hgt:Int):=lim_of ⟨x.hgt,fun m hm=>(rdepth_ok x m hm hc).eq⟩
theorem loop_find {α ρ:Type} [Inhabited α] (l:List α) {step:Int→Option (Fl Int (Sum Unit ρ))} (f:α→Option ρ) (hl:l.length≤9223372036854775807)
  (h:∀n:Nat,n<l.length→step n=some (match f (l.getD n default) with|some y=>.ex (.inr y)|none=>.nx ((n:Int)+1))) (he:step l.length=some (.ex (.inl ()))) :
  loop step 0=some (match findL f l with|some y=>.inr y|none=>.inl ()):=by
 have:∀(k n:Nat),n+k=l.length→loop step n=some (match findL f (l.drop n) with|some y=>.inr y|none=>.inl ()):=by
  intro k
  induction k with
  | zero =>
   intro n hn
   have hn:n=l.length:=by omega
   subst hn
   rw [loop_eq,he,List.drop_length];rfl
  | succ k ih =>
   intro n hn
   rw [loop_eq,h n (by omega)]
   have hd:l.drop n=l.getD n default::l.drop (n+1):=by
    rw [List.getD_eq_getElem?_getD,List.getElem?_eq_getElem (by omega),Option.getD_some,List.drop_eq_getElem_cons (by omega)]
   rw [hd]
   simp only [findL]
   cases f (l.getD n default) with
   | some y=>rfl
   | none =>
    have:=ih (n+1) (by omega)
    exact this
 have:=this l.length 0 (by omega)
 simpa using this
theorem findL_none {α ρ:Type} {f:α→Option ρ}:∀{l:List α},findL f l=none↔∀x∈l,f x=none
 | []=>by simp [findL]
 | a::r=>by
  simp only [findL]
  cases h:f a with
  | some y=>simp [h]
  | none=>simp [h,findL_none (l:=r)]
theorem findL_con {α ρ:Type} {f:α→Option ρ} {v:ρ} (hf:∀x,f x=none∨f x=some v):∀(l:List α),findL f l=none∨findL f l=some v
 | []=>.inl rfl
 | a::r=>by
  simp only [findL]
  rcases hf a with h|h<;>rw [h]
  ·exact findL_con hf r
  ·exact .inr rfl
open Classical in
theorem rquot_eq {s:Str} (hs:s.length≤9223372036854775807):F_1x s=some (decide (qP s)):=by
 refine Ok.eq ?_
 unfold F_1x
 let f:UInt8→Option Bool:=fun c=>if 33≤c.toNat∧c.toNat≤126∧c.toNat≠34 then none else some false
 have hL:=loop_find s (step:=F_26 s) f hs (fun n hn=>by
  have hi:inb (n:Int) s.length=true:=inb_iff.2 ⟨by omega,by omega⟩
  refine Ok.eq ?_
  unfold F_26
  rw [Int.toNat_natCast]
  have hf:f (s.getD n default)=(if 33≤(s.getD n 0).toNat∧(s.getD n 0).toNat≤126∧(s.getD n 0).toNat≠34 then none else some false):=rfl
  rw [hf]
  refine Ok.ite (fun _=>Ok.chk hi (Ok.ite (fun c=>Ok.ret ?_) fun c=>Ok.chk hi (Ok.ite (fun c2=>Ok.ret ?_) fun c2=>Ok.chk hi (Ok.ite (fun c3=>Ok.ret ?_) fun c3=>Ok.chk (in64_iff.2 ⟨by omega,by omega⟩) (Ok.ret ?_))))) fun c=>by have:=of_decide_eq_false c;omega
  ·have c:=of_decide_eq_true c
   rw [if_neg (by omega)]<;>rfl
  ·have c2:=of_decide_eq_true c2
   rw [if_neg (by omega)]<;>rfl
  ·have c3:=of_decide_eq_true c3
   rw [if_neg (by omega)]<;>rfl
  ·have c:=of_decide_eq_false c;have c2:=of_decide_eq_false c2;have c3:=of_decide_eq_false c3
   rw [if_pos (by omega)]<;>rfl) (by
  refine Ok.eq ?_
  unfold F_26
  exact Ok.ite (fun c=>by have:=of_decide_eq_true c;omega) fun _=>Ok.ret rfl)
 rw [hL,Option.bind_some]
 rcases findL_con (f:=f) (v:=false) (fun c=>by show (if _ then none else some false)=none∨(if _ then none else some false)=some false;split<;>simp) s with e|e
 ·have hall:=findL_none.1 e
  have hq:∀c∈s,33≤c.toNat∧c.toNat≤126∧c.toNat≠34:=fun c hc=>Classical.byContradiction fun hn=>by
   have:(if 33≤c.toNat∧c.toNat≤126∧c.toNat≠34 then none else some false)=none:=hall c hc
   rw [if_neg hn] at this;cases this
  rw [e]
  refine Ok.grp (Ok.ret ?_)
  rw [Bool.eq_iff_iff]
  simp only [Bool.and_eq_true,decide_eq_true_eq]
  exact ⟨fun h=>⟨hq,by omega,by omega⟩,fun h=>⟨by have:=h.2.1;omega,by have:=h.2.2;omega⟩⟩
 ·rw [e]
  refine Ok.ret (decide_eq_false fun h=>?_).symm
  have:findL f s=none:=findL_none.2 fun c hc=>if_pos (h.1 c hc)
  rw [this] at e;cases e
def nameP (s:Str):Prop:=(∀c∈s,(97≤c.toNat∧c.toNat≤122)∨(48≤c.toNat∧c.toNat≤57)∨c.toNat=45)∧1≤s.length∧s.length≤40
open Classical in
theorem named_eq (s:Str):F_1j s=some (decide (nameP s)):=by
 refine Ok.eq ?_
 unfold F_1j
 refine Ok.bind (Ok.forI (all:=s) (Q:=Fl.elim (fun _=>∀c∈s,(97≤c.toNat∧c.toNat≤122)∨(48≤c.toNat∧c.toNat≤57)∨c.toNat=45) fun r=>r=false∧¬nameP s) (fun pre _=>∀c∈pre,(97≤c.toNat∧c.toNat≤122)∨(48≤c.toNat∧c.toNat≤57)∨c.toNat=45) s [] 0 () rfl rfl (by simp) (fun pre c r _ hw hs=>?_) fun _ hs=>hs) fun o ho=>?_
 ·unfold F_2c
  refine Ok.grp (Ok.grp (Ok.grp (Ok.ite (fun c1=>Ok.ret ⟨rfl,fun hq=>?_⟩) fun c1=>Ok.ret ?_)))
  ·have:=hq.1 c (mem_at hw)
   simp only [Bool.or_eq_true,Bool.and_eq_true,Bool.not_eq_true',decide_eq_true_eq,decide_eq_false_iff_not] at c1
   omega
  ·simp only [Bool.or_eq_false_iff,Bool.and_eq_false_iff,Bool.not_eq_false',decide_eq_true_eq,decide_eq_false_iff_not] at c1
   intro d hd
   rcases List.mem_append.1 hd with hd|hd
   ·exact hs d hd
   ·cases List.mem_singleton.1 hd
    omega
 ·cases o with
  | ex r =>
   obtain ⟨rfl,h⟩:=ho
   exact Ok.ret (decide_eq_false h).symm
  | nx u =>
   refine Ok.grp (Ok.ret ?_)
   rw [Bool.eq_iff_iff]
   simp only [Bool.and_eq_true,decide_eq_true_eq]
   exact ⟨fun h=>⟨ho,by omega,by omega⟩,fun h=>⟨by have:=h.2.1;omega,by have:=h.2.2;omega⟩⟩
inductive Lens:GTerm→Prop
 | mk (x:GTerm) (h1:x.Text.length≤9223372036854775807) (h2:x.Kids.length≤9223372036854775807) (hk:∀k∈x.Kids,Lens k):Lens x
theorem Lens.tl {x:GTerm} (h:Lens x):x.Text.length≤9223372036854775807:=by cases h;assumption
theorem Lens.kl {x:GTerm} (h:Lens x):x.Kids.length≤9223372036854775807:=by cases h;assumption
theorem Lens.kid {x k:GTerm} (h:Lens x) (hk:k∈x.Kids):Lens k:=by cases h with|mk _ _ _ h=>exact h k hk
theorem Rgt.lens {x:GTerm} (h:Rgt x) (hc:x.cnt≤1000):Lens x:=by
 induction h with
 | mk x ho hk ih =>
  have hkl:=kids_cnt x
  refine .mk x ?_ (by omega) fun k hm=>ih k hm (by have:=kid_cnt hm;omega)
  rcases ho with h|h|h|h
  ·have:=h.2.1.2.2;omega
  ·rw [h.2.1];simp
  ·rw [h.2.1];simp
  ·rw [h.2.1];simp
open Classical in
theorem rright_ok:∀(x:GTerm) (m:Nat),x.hgt≤m→x.cnt≤1000→Lens x→Ok (FR_g m x) (·=decide (Rgt x)):=by
 refine GTerm.ind fun x ih m hm hc hL=>?_
 obtain ⟨m,rfl⟩:∃n,m=n+1:=⟨m - 1,by have:=hgt_pos x;omega⟩
 have hkl:=kids_cnt x
 rw [FR_g]
 refine Ok.jn (P:=fun b=>b=decide (okN x)) ?_ fun b hb=>?_
 ·refine Ok.jn (P:=fun b=>b=decide (x.Op=1∨x.Op=2∨x.Op=3)) (Ok.ite (fun c=>Ok.ret (by simpa using .inl (of_decide_eq_true c))) fun c=>Ok.ite (fun c2=>Ok.ret (by simpa using .inr (.inl (of_decide_eq_true c2)))) fun c2=>Ok.ret (by simp at c c2;simp [c,c2])) fun b hb=>?_
  subst hb
  refine Ok.ite (fun c=>?_) fun c=>?_
  ·have c:=of_decide_eq_true c
   rw [rquot_eq hL.tl,Option.bind_some]
   refine Ok.grp (Ok.grp (Ok.grp (Ok.ret ?_)))
   rw [Bool.eq_iff_iff]
   simp only [Bool.and_eq_true,decide_eq_true_eq,len0]
   constructor
   ·rintro ⟨⟨⟨h1,h2⟩,h3⟩,h4⟩;exact .inl ⟨c,h1,h2,h3,h4⟩
   ·rintro (h|⟨h,_⟩|⟨h,_⟩|⟨h,_⟩)
    ·exact ⟨⟨⟨h.2.1,h.2.2.1⟩,h.2.2.2.1⟩,h.2.2.2.2⟩
    all_goals omega
  ·have c:=of_decide_eq_false c
   refine Ok.jn (P:=fun b=>b=decide (x.Op=4∨x.Op=5∨x.Op=6∨x.Op=8)) (Ok.ite (fun c=>Ok.ret (by simpa using .inl (of_decide_eq_true c))) fun c=>Ok.ite (fun c2=>Ok.ret (by simpa using .inr (.inl (of_decide_eq_true c2)))) fun c2=>Ok.ite (fun c3=>Ok.ret (by simpa using .inr (.inr (.inl (of_decide_eq_true c3))))) fun c3=>Ok.ret (by simp at c c2 c3;simp [c,c2,c3])) fun b hb=>?_
   subst hb
   refine Ok.ite (fun c1=>?_) fun c1=>?_
   ·have c1:=of_decide_eq_true c1
    refine Ok.grp (Ok.grp (Ok.grp (Ok.grp (Ok.ret ?_))))
    rw [Bool.eq_iff_iff]
    simp only [Bool.and_eq_true,decide_eq_true_eq,len0]
    constructor
    ·rintro ⟨⟨⟨⟨h1,h2⟩,h3⟩,h4⟩,h5⟩;exact .inr (.inl ⟨c1,h1,h2,h3,h4,h5⟩)
    ·rintro (⟨h,_⟩|h|⟨h,_⟩|⟨h,_⟩)
     ·omega
     ·exact ⟨⟨⟨⟨h.2.1,h.2.2.1⟩,h.2.2.2.1⟩,h.2.2.2.2.1⟩,h.2.2.2.2.2⟩
     all_goals omega
   ·have c1:=of_decide_eq_false c1
    refine Ok.ite (fun c2=>?_) fun c2=>?_
    ·have c2:=of_decide_eq_true c2
     refine Ok.grp (Ok.grp (Ok.ret ?_))
     rw [Bool.eq_iff_iff]
     simp only [Bool.and_eq_true,decide_eq_true_eq,len0]
     constructor
     ·rintro ⟨⟨h1,h2⟩,h3⟩;exact .inr (.inr (.inl ⟨c2,h1,h2,h3⟩))
     ·rintro (⟨h,_⟩|⟨h,_⟩|h|⟨h,_⟩)
      ·omega
      ·omega
      ·exact ⟨⟨h.2.1,h.2.2.1⟩,h.2.2.2⟩
      ·omega
    ·have c2:=of_decide_eq_false c2
     refine Ok.ite (fun c9=>?_) fun c9=>?_
     ·have c9:=of_decide_eq_true c9
      refine Ok.grp (Ok.grp (Ok.grp (Ok.ret ?_)))
      rw [Bool.eq_iff_iff]
      simp only [Bool.and_eq_true,decide_eq_true_eq]
      constructor
      ·rintro ⟨⟨⟨h1,h2⟩,h3⟩,h4⟩
       exact .inr (.inr (.inr ⟨.inl c9,h1,h2,h3,.inl ⟨c9,by omega⟩⟩))
      ·rintro (⟨h,_⟩|⟨h,_⟩|⟨h,_⟩|h)
       ·omega
       ·omega
       ·omega
       ·refine ⟨⟨⟨h.2.1,h.2.2.1⟩,h.2.2.2.1⟩,?_⟩
        rcases h.2.2.2.2 with h4|h4
        ·omega
        ·exact absurd c9 h4.1
     ·have c9:=of_decide_eq_false c9
      refine Ok.jn (P:=fun b=>b=decide (x.Op=10∨x.Op=11)) (Ok.ite (fun c=>Ok.ret (by simpa using .inl (of_decide_eq_true c))) fun c=>Ok.ret (by simp at c;simp [c])) fun b hb=>?_
      subst hb
      refine Ok.ite (fun c3=>?_) fun c3=>?_
      ·have c3:=of_decide_eq_true c3
       refine Ok.grp (Ok.grp (Ok.grp (Ok.ret ?_)))
       rw [Bool.eq_iff_iff]
       simp only [Bool.and_eq_true,decide_eq_true_eq]
       constructor
       ·rintro ⟨⟨⟨h1,h2⟩,h3⟩,h4⟩
        exact .inr (.inr (.inr ⟨.inr c3,h1,h2,h3,.inr ⟨c9,by omega⟩⟩))
       ·rintro (⟨h,_⟩|⟨h,_⟩|⟨h,_⟩|h)
        ·omega
        ·omega
        ·omega
        ·refine ⟨⟨⟨h.2.1,h.2.2.1⟩,h.2.2.2.1⟩,?_⟩
         rcases h.2.2.2.2 with h4|h4
         ·exact absurd h4.1 c9
         ·omega
      ·have c3:=of_decide_eq_false c3
       refine Ok.ret (decide_eq_false ?_).symm
       rintro (⟨h,_⟩|⟨h,_⟩|⟨h,_⟩|⟨h,_⟩)<;>omega
 ·subst hb
  refine Ok.bind (Ok.loop (Q:=fun r=>r=decide (Rgt x)) (fun s:Bool×Int=>∃n:Nat,s.2=(n:Int)∧n≤x.Kids.length∧s.1=decide (okN x∧∀k∈x.Kids.take n,Rgt k)) (fun s=>(x.Kids.length - s.2).toNat) (fun s hs=>?_) _ ⟨0,rfl,by omega,by simp⟩) fun r hr=>Ok.ret hr
  obtain ⟨s,i⟩:=s
  obtain ⟨n,e,h2,h4⟩:=hs
  dsimp only at e h4
  subst e
  refine Ok.grp (Ok.ite (fun c=>?_) fun c=>?_)
  ·simp only [Bool.and_eq_true,decide_eq_true_eq] at c
   have hs:okN x∧∀k∈x.Kids.take n,Rgt k:=by rw [c.2] at h4;exact of_decide_eq_true h4.symm
   obtain ⟨k,hk,hg,ht⟩:=at_take (l:=x.Kids) (n:=n) (by omega)
   refine Ok.chk (inb_iff.2 ⟨by dsimp only;omega,by dsimp only;omega⟩) ?_
   dsimp only
   rw [Int.toNat_natCast,hg]
   refine Ok.bind (ih k hk m (by have:=kid_hgt hk;omega) (by have:=kid_cnt hk;omega) (hL.kid hk)) fun y hy=>Ok.chk (in64_s (by omega) (by omega)) (Ok.ret ⟨⟨n+1,rfl,by omega,?_⟩,by dsimp only;omega⟩)
   dsimp only
   rw [hy,ht,decide_eq_decide]
   constructor
   ·intro h
    refine ⟨hs.1,fun q hq=>?_⟩
    rcases List.mem_append.1 hq with hq|hq
    ·exact hs.2 q hq
    ·cases List.mem_singleton.1 hq;exact h
   ·exact fun h=>h.2 k (by simp)
  ·refine Ok.ret ?_
   show s=_
   by_cases e:s=true
   ·have:¬(n:Int)<x.Kids.length:=fun h=>by simp [h,e] at c
    have en:n=x.Kids.length:=by omega
    subst en
    rw [List.take_length] at h4
    rw [h4,decide_eq_decide]
    exact ⟨fun h=>.mk x h.1 h.2,fun h=>⟨h.ok,fun k hk=>h.kid hk⟩⟩
   ·have e:s=false:=by simpa using e
    rw [e] at h4 ⊢
    have h4:=of_decide_eq_false h4.symm
    rw [eq_comm,decide_eq_false_iff_not]
    exact fun h=>h4 ⟨h.ok,fun k hk=>h.kid (List.mem_of_mem_take hk)⟩
open Classical in
theorem rright_eq {x:GTerm} (hc:x.cnt≤1000) (hL:Lens x):F_g x=some (decide (Rgt x)):=lim_of ⟨x.hgt,fun m hm=>(rright_ok x m hm hc hL).eq⟩
open Classical in
theorem rterm_eq {x:GTerm} (hL:Lens x):F_1y x=some x.err:=by
 refine Ok.eq ?_
 unfold F_1y GTerm.err
 rw [rcount_eq,Option.bind_some]
 refine Ok.ite (fun c=>Ok.ret (by rw [if_pos (by have:=of_decide_eq_true c;omega)])) fun c=>?_
 have c:=of_decide_eq_false c
 rw [if_neg (by omega),rdepth_eq (by omega),Option.bind_some]
 refine Ok.ite (fun c=>Ok.ret (by rw [if_pos (by have:=of_decide_eq_true c;omega)])) fun c=>?_
 have c:=of_decide_eq_false c
 rw [if_neg (by omega),rright_eq (by omega) hL,Option.bind_some]
 refine Ok.ite (fun c=>Ok.ret (by rw [if_pos (by simpa using c)])) fun c=>Ok.ret (by rw [if_neg (by simpa using c)])
open Classical in
theorem rname_eq {s:Str} (hs:s.length≤9223372036854775807):F_1w s=some (decide (nameP s)):=by
 refine Ok.eq ?_
 unfold F_1w
 let f:UInt8→Option Bool:=fun c=>if (97≤c.toNat∧c.toNat≤122)∨(48≤c.toNat∧c.toNat≤57)∨c.toNat=45 then none else some false
 have hL:=loop_find s (step:=F_25 s) f hs (fun n hn=>by
  have hi:inb (n:Int) s.length=true:=inb_iff.2 ⟨by omega,by omega⟩
  have hf:f (s.getD n default)=(if (97≤(s.getD n 0).toNat∧(s.getD n 0).toNat≤122)∨(48≤(s.getD n 0).toNat∧(s.getD n 0).toNat≤57)∨(s.getD n 0).toNat=45 then none else some false):=rfl
  refine Ok.eq ?_
  unfold F_25
  rw [Int.toNat_natCast,hf]
  generalize (s.getD n 0).toNat=c
  refine Ok.ite (fun _=>?_) fun h=>by have:=of_decide_eq_false h;omega
  refine Ok.jn (P:=fun o=>o=if (97≤c∧c≤122)∨(48≤c∧c≤57)∨c=45 then .nx () else .ex false) (Ok.chk hi (Ok.ite (fun c1=>?_) fun c1=>Ok.chk hi ?_)) fun o ho=>?_
  ·have c1:=of_decide_eq_true c1
   refine Ok.jn (P:=fun j=>j.2.2.2.2.2.2=decide (c<48∨57<c)) (Ok.chk hi (Ok.ite (fun c2=>Ok.ret ?_) fun c2=>Ok.chk hi (Ok.ret ?_))) fun j hj=>?_
   ·exact (decide_eq_true (.inl (by have:=of_decide_eq_true c2;omega))).symm
   ·have c2:=of_decide_eq_false c2
    exact decide_eq_decide.2 ⟨fun h=>.inr (by omega),fun h=>by omega⟩
   ·rw [hj]
    refine Ok.jn (P:=fun b=>b=decide ((c<48∨57<c)∧c≠45)) (Ok.ite (fun c2=>Ok.chk hi (Ok.ret ?_)) fun c2=>Ok.ret ?_) fun b hb=>?_
    ·have c2:=of_decide_eq_true c2
     rw [Bool.eq_iff_iff];simp;omega
    ·have c2:=of_decide_eq_false c2
     exact (decide_eq_false fun h=>c2 h.1).symm
    ·subst hb
     refine Ok.ite (fun c3=>Ok.ret ?_) fun c3=>Ok.ret ?_
     ·have c3:=of_decide_eq_true c3
      rw [if_neg (by omega)]
     ·have c3:=of_decide_eq_false c3
      rw [if_pos (by omega)]
  ·have c1:=of_decide_eq_false c1
   refine Ok.jn (P:=fun b=>b=decide (122<c∧(c<48∨57<c))) (Ok.ite (fun c2=>Ok.chk hi (Ok.ite (fun c3=>Ok.ret ?_) fun c3=>Ok.chk hi (Ok.ret ?_))) fun c2=>Ok.ret ?_) fun b hb=>?_
   ·have c2:=of_decide_eq_true c2;have c3:=of_decide_eq_true c3
    exact (decide_eq_true (by omega)).symm
   ·have c2:=of_decide_eq_true c2;have c3:=of_decide_eq_false c3
    exact decide_eq_decide.2 ⟨fun h=>by omega,fun h=>by omega⟩
   ·have c2:=of_decide_eq_false c2
    exact (decide_eq_false (by omega)).symm
   ·subst hb
    refine Ok.jn (P:=fun b=>b=decide ((122<c∧(c<48∨57<c))∧c≠45)) (Ok.ite (fun c2=>Ok.chk hi (Ok.ret ?_)) fun c2=>Ok.ret ?_) fun b hb=>?_
    ·have c2:=of_decide_eq_true c2
     rw [Bool.eq_iff_iff];simp;omega
    ·have c2:=of_decide_eq_false c2
     exact (decide_eq_false fun h=>c2 h.1).symm
    ·subst hb
     refine Ok.ite (fun c3=>Ok.ret ?_) fun c3=>Ok.ret ?_
     ·have c3:=of_decide_eq_true c3
      rw [if_neg (by omega)]
     ·have c3:=of_decide_eq_false c3
      rw [if_pos (by omega)]
  ·subst ho
   by_cases g:(97≤c∧c≤122)∨(48≤c∧c≤57)∨c=45
   ·rw [if_pos g,if_pos g,Fl_nx]
    have h64:in64 ((n:Int)+1)=true:=in64_iff.2 ⟨by omega,by omega⟩
    exact Ok.chk h64 (Ok.ret rfl)
   ·rw [if_neg g,if_neg g,Fl_ex]
    exact Ok.ret rfl) (by
  refine Ok.eq ?_
  unfold F_25
  exact Ok.ite (fun c=>by have:=of_decide_eq_true c;omega) fun _=>Ok.ret rfl)
 rw [hL,Option.bind_some]
 rcases findL_con (f:=f) (v:=false) (fun c=>by show (if _ then none else some false)=none∨(if _ then none else some false)=some false;split<;>simp) s with e|e
 ·have hall:=findL_none.1 e
  have hq:∀c∈s,(97≤c.toNat∧c.toNat≤122)∨(48≤c.toNat∧c.toNat≤57)∨c.toNat=45:=fun c hc=>Classical.byContradiction fun hn=>by
   have:(if (97≤c.toNat∧c.toNat≤122)∨(48≤c.toNat∧c.toNat≤57)∨c.toNat=45 then none else some false)=none:=hall c hc
   rw [if_neg hn] at this;cases this
  rw [e]
  refine Ok.grp (Ok.ret ?_)
  rw [Bool.eq_iff_iff]
  simp only [Bool.and_eq_true,decide_eq_true_eq]
  exact ⟨fun h=>⟨hq,by omega,by omega⟩,fun h=>⟨by have:=h.2.1;omega,by have:=h.2.2;omega⟩⟩
 ·rw [e]
  refine Ok.ret (decide_eq_false fun h=>?_).symm
  have:findL f s=none:=findL_none.2 fun c hc=>if_pos (h.1 c hc)
  rw [this] at e;cases e
end Go.Ab
namespace Go.Ab
open Go.Proofs
open Classical in
noncomputable def rchk (r:GRule):Int:=if ¬nameP r.Name then 4 else if r.When.err≠0 then r.When.err else if r.Verdict≠1∧r.Verdict≠2 then 1 else 0
theorem check_eq (r:GRule):F_1c r=some (rchk r):=by
 classical
 refine Ok.eq ?_
 unfold F_1c rchk
 rw [named_eq,Option.bind_some]
 refine Ok.ite (fun c=>Ok.ret (by rw [if_pos (by simpa using c)])) fun c=>?_
 rw [if_neg (by simpa using c),term_eq,Option.bind_some]
 refine Ok.ite (fun c=>Ok.ret (by rw [if_pos (by simpa using c)])) fun c=>?_
 rw [if_neg (by simpa using c)]
 refine Ok.grp (Ok.ite (fun c=>Ok.ret (by rw [if_pos (by simpa using c)])) fun c=>Ok.ret (by rw [if_neg (fun h=>by simp [h.1,h.2] at c)]))
open Classical in
noncomputable def fchk (r:GRule):Option Int:=if rchk r=0 then none else some (rchk r)
theorem fchk_some {r:GRule} {v:Int} (h:rchk r=v) (hv:v≠0):fchk r=some v:=by
 unfold fchk;rw [if_neg (by rw [h];exact hv),h]
theorem fchk_none {r:GRule} (h:rchk r=0):fchk r=none:=by
 unfold fchk;rw [if_pos h]
theorem rchk_n {r:GRule} (h:¬nameP r.Name):rchk r=4:=by
 unfold rchk;rw [if_pos h]
theorem rchk_e {r:GRule} (h:nameP r.Name) (h2:r.When.err≠0):rchk r=r.When.err:=by
 unfold rchk;rw [if_neg (fun k=>k h),if_pos h2]
theorem rchk_v {r:GRule} (h:nameP r.Name) (h2:r.When.err=0) (h3:r.Verdict≠1∧r.Verdict≠2):rchk r=1:=by
 unfold rchk;rw [if_neg (fun k=>k h),if_neg (fun k=>k h2),if_pos h3]
theorem rchk_o {r:GRule} (h:nameP r.Name) (h2:r.When.err=0) (h3:¬(r.Verdict≠1∧r.Verdict≠2)):rchk r=0:=by
 unfold rchk;rw [if_neg (fun k=>k h),if_neg (fun k=>k h2),if_neg h3]
def uniq (l:List GRule):Prop:=(l.map GRule.Name).Nodup
open Classical in
noncomputable def verr (l:List GRule):Int:=if 40<l.length then 3 else match findL fchk l with|some e=>e|none=>if uniq l then 0 else 7
theorem uniq_snoc {l:List GRule} {x:GRule}:uniq (l++[x])↔uniq l∧∀o∈l,o.Name≠x.Name:=by
 unfold uniq
 rw [List.map_append,List.nodup_append]
 constructor
 ·rintro ⟨h1,_,h3⟩
  exact ⟨h1,fun o ho=>h3 _ (List.mem_map_of_mem ho) _ (by simp)⟩
 ·rintro ⟨h1,h2⟩
  refine ⟨h1,by simp,fun a ha b hb=>?_⟩
  obtain ⟨o,ho,rfl⟩:=List.mem_map.1 ha
  have:b=x.Name:=by simpa using hb
  subst this
  exact h2 o ho
theorem uniq_pre {a b:List GRule} (h:uniq (a++b)):uniq a:=by
 unfold uniq at h ⊢
 rw [List.map_append,List.nodup_append] at h
 exact h.1
open Classical in
theorem valid_eq (l:List GRule):F_x l=some (verr l):=by
 refine Ok.eq ?_
 unfold F_x verr
 refine Ok.ite (fun c=>Ok.ret (by rw [if_pos (by have:=of_decide_eq_true c;omega)])) fun c=>?_
 have c:=of_decide_eq_false c
 rw [if_neg (by omega)]
 have h1:forL F_1k l 0 ()=some (flO (findL fchk l)):=forL_find fchk l 0 fun k r _=>by
  unfold F_1k
  rw [check_eq,Option.bind_some]
  unfold fchk
  by_cases e:rchk r=0
  ·rw [if_pos e,e];rfl
  ·rw [if_neg e,decide_eq_false e];rfl
 rw [h1,Option.bind_some]
 cases findL fchk l with
 | some e=>exact Ok.ret rfl
 | none =>
  show Ok ((forL (F_1l l) l 0 ()).bind _) _
  refine Ok.bind (Ok.forI (all:=l) (Q:=Fl.elim (fun _=>uniq l) fun r=>r=7∧¬uniq l) (fun pre _=>uniq pre) l [] 0 () rfl rfl (by simp [uniq]) (fun pre x r _ hw hs=>?_) fun _ hs=>hs) fun o ho=>?_
  ·unfold F_1l
   have ht:l.take ((pre.length:Int)).toNat=pre:=by rw [Int.toNat_natCast,hw];simp
   rw [ht]
   have hc:F_1o pre x=some (decide (∃o∈pre,o.Name=x.Name)) :=
    contains_b (body:=F_23 x) (fun o:GRule=>o.Name=x.Name) pre fun k y _=>by
     by_cases c:y.Name=x.Name<;>simp [F_23,F_22,c]
   rw [hc]
   refine Ok.chk (inc_iff.2 ⟨by omega,by omega,by have:=len_at hw;omega⟩) ?_
   rw [Option.bind_some]
   refine Ok.ite (fun c=>Ok.ret ⟨rfl,fun hu=>?_⟩) fun c=>Ok.ret ?_
   ·obtain ⟨o,ho,e⟩:=of_decide_eq_true c
    rw [hw,show pre++x::r=(pre++[x])++r by simp] at hu
    exact (uniq_snoc.1 (uniq_pre hu)).2 o ho e
   ·have c:=of_decide_eq_false c
    exact uniq_snoc.2 ⟨hs,fun o ho e=>c ⟨o,ho,e⟩⟩
  ·cases o with
   | nx u =>
    have ho:uniq l:=ho
    exact Ok.ret (by rw [if_pos ho])
   | ex r =>
    obtain ⟨rfl,ho⟩:=ho
    exact Ok.ret (by rw [if_neg ho])
structure LensR (r:GRule):Prop where
 n:r.Name.length≤9223372036854775807
 w:Lens r.When
open Classical in
theorem rvalid_eq {l:List GRule} (hl:∀r∈l,LensR r):F_1z l=some (verr l):=by
 refine Ok.eq ?_
 unfold F_1z verr
 refine Ok.ite (fun c=>Ok.ret (by rw [if_pos (by have:=of_decide_eq_true c;omega)])) fun c=>?_
 have c:=of_decide_eq_false c
 rw [if_neg (by omega)]
 have h1:=loop_find l (step:=F_27 l) fchk (by omega) (fun n hn=>by
  have hi:inb (n:Int) l.length=true:=inb_iff.2 ⟨by omega,by omega⟩
  obtain ⟨r,hr,hg,_⟩:=at_take hn
  refine Ok.eq ?_
  unfold F_27
  rw [Int.toNat_natCast,hg]
  refine Ok.ite (fun _=>Ok.chk hi ?_) fun h=>by have:=of_decide_eq_false h;omega
  rw [rname_eq (hl r hr).n,Option.bind_some]
  refine Ok.ite (fun c=>Ok.ret ?_) fun c=>Ok.chk hi ?_
  ·have c:¬nameP r.Name:=by simpa using c
   rw [fchk_some (rchk_n c) (by decide)]
  ·have cn:nameP r.Name:=by simpa using c
   rw [rterm_eq (hl r hr).w,Option.bind_some]
   refine Ok.ite (fun c=>Ok.ret ?_) fun c=>Ok.chk hi ?_
   ·have c:r.When.err≠0:=by simpa using c
    rw [fchk_some (rchk_e cn c) c]
   ·have ce:r.When.err=0:=by simpa using c
    refine Ok.jn (P:=fun b=>b=decide (r.Verdict≠1∧r.Verdict≠2)) (Ok.ite (fun c1=>Ok.chk hi (Ok.ret ?_)) fun c1=>Ok.ret ?_) fun b hb=>?_
    ·have c1:r.Verdict≠1:=by simpa using c1
     rw [Bool.eq_iff_iff];simp [c1]
    ·have c1:r.Verdict=1:=by simpa using c1
     simp [c1]
    ·subst hb
     refine Ok.ite (fun c2=>Ok.ret ?_) fun c2=>Ok.chk (in64_s (by omega) (by omega)) (Ok.ret ?_)
     ·rw [fchk_some (rchk_v cn ce (of_decide_eq_true c2)) (by decide)]
     ·rw [fchk_none (rchk_o cn ce (of_decide_eq_false c2))]) (by
  refine Ok.eq ?_
  unfold F_27
  exact Ok.ite (fun c=>by have:=of_decide_eq_true c;omega) fun _=>Ok.ret rfl)
 rw [h1,Option.bind_some]
 cases findL fchk l with
 | some e=>exact Ok.ret rfl
 | none =>
  rw [Sum_inl]
  refine Ok.bind (Ok.loop (Q:=fun r=>(r=.inl ()∧uniq l)∨(r=.inr 7∧¬uniq l)) (fun i:Int=>0≤i∧i≤l.length∧uniq (l.take i.toNat)) (fun i=>((l.length:Int) - i).toNat) (fun i hi=>?_) 0 ⟨by omega,by omega,by simp [uniq]⟩) fun r hr=>?_
  ·obtain ⟨i0,i1,i2⟩:=hi
   obtain ⟨n,rfl⟩:=Int.eq_ofNat_of_zero_le i0
   rw [Int.toNat_natCast] at i2
   unfold F_2m
   refine Ok.ite (fun d=>?_) fun d=>Ok.ret (.inl ⟨rfl,?_⟩)
   ·have d:=of_decide_eq_true d
    obtain ⟨x,hx,hg,ht⟩:=at_take (l:=l) (n:=n) (by omega)
    have hi:inb (n:Int) l.length=true:=inb_iff.2 ⟨by omega,d⟩
    refine Ok.bind (Ok.loop (Q:=fun r=>(r=.inl ()∧∀o∈l.take n,o.Name≠x.Name)∨(r=.inr 7∧∃o∈l.take n,o.Name=x.Name)) (fun k:Int=>0≤k∧k≤n∧∀o∈l.take k.toNat,o.Name≠x.Name) (fun k=>((n:Int) - k).toNat) (fun k hk=>?_) 0 ⟨by omega,by omega,by simp⟩) fun r hr=>?_
    ·obtain ⟨k0,k1,k2⟩:=hk
     obtain ⟨p,rfl⟩:=Int.eq_ofNat_of_zero_le k0
     rw [Int.toNat_natCast] at k2
     unfold F_2l
     refine Ok.ite (fun e=>?_) fun e=>Ok.ret (.inl ⟨rfl,?_⟩)
     ·have e:=of_decide_eq_true e
      obtain ⟨y,hy,hg2,ht2⟩:=at_take (l:=l) (n:=p) (by omega)
      refine Ok.chk hi (Ok.chk (inb_iff.2 ⟨by omega,by omega⟩) ?_)
      rw [Int.toNat_natCast,Int.toNat_natCast,hg,hg2]
      refine Ok.ite (fun g=>Ok.ret (.inr ⟨rfl,y,?_,(of_decide_eq_true g).symm⟩)) fun g=>Ok.chk (in64_s (by omega) (by omega)) (Ok.ret ⟨⟨by omega,by omega,?_⟩,by omega⟩)
      ·have:y∈l.take (p+1):=by rw [ht2];simp
       exact List.take_subset_take_left _ (by omega) this
      ·rw [show ((p:Int)+1).toNat=p+1 by omega,ht2]
       intro o ho
       rcases List.mem_append.1 ho with ho|ho
       ·exact k2 o ho
       ·cases List.mem_singleton.1 ho
        exact fun h=>(of_decide_eq_false g) h.symm
     ·have e:=of_decide_eq_false e
      have:p=n:=by omega
      subst this
      exact k2
    ·rcases hr with ⟨rfl,h⟩|⟨rfl,o,ho,h⟩
     ·rw [Sum_inl]
      refine Ok.chk (in64_s (by omega) (by omega)) (Ok.ret ⟨⟨by omega,by omega,?_⟩,by omega⟩)
      rw [show ((n:Int)+1).toNat=n+1 by omega,ht]
      exact uniq_snoc.2 ⟨i2,h⟩
     ·rw [Sum_inr]
      refine Ok.ret (.inr ⟨rfl,fun hu=>?_⟩)
      have hu':uniq (l.take (n+1)):=uniq_pre (b:=l.drop (n+1)) (by rw [List.take_append_drop];exact hu)
      rw [ht] at hu'
      exact (uniq_snoc.1 hu').2 o ho h
   ·have d:=of_decide_eq_false d
    have:n=l.length:=by omega
    subst this
    rw [List.take_length] at i2
    exact i2
  ·rcases hr with ⟨rfl,h⟩|⟨rfl,h⟩
   ·rw [Sum_inl];exact Ok.ret (by rw [if_pos h])
   ·rw [Sum_inr];exact Ok.ret (by rw [if_neg h])
structure VR' (l:List GRule):Prop where
 n:l.length≤40
 r:∀r∈l,nameP r.Name∧PV r.When∧(r.Verdict=1∨r.Verdict=2)
 u:uniq l
theorem rchk_zero {r:GRule}:rchk r=0↔nameP r.Name∧PV r.When∧(r.Verdict=1∨r.Verdict=2):=by
 classical
 unfold rchk
 constructor
 ·intro h
  split at h
  ·omega
  ·split at h
   ·rename_i h2;exact absurd h h2
   ·split at h
    ·omega
    ·rename_i h1 h2 h3
     exact ⟨Classical.byContradiction h1,err_zero.1 (Classical.byContradiction h2),by omega⟩
 ·rintro ⟨h1,h2,h3⟩
  rw [if_neg (fun h=>h h1),if_neg (fun h=>h (err_zero.2 h2)),if_neg (by omega)]
theorem verr_zero {l:List GRule}:verr l=0↔VR' l:=by
 classical
 unfold verr
 constructor
 ·intro h
  split at h
  ·omega
  ·rename_i h1
   cases e:findL fchk l with
   | some v =>
    rw [e] at h
    have h:v=0:=h
    subst h
    exfalso
    have:∀l:List GRule,findL fchk l≠some 0:=by
     intro l
     induction l with
     | nil=>simp [findL]
     | cons a r ih =>
      simp only [findL]
      cases g:fchk a with
      | none=>exact ih
      | some v =>
       unfold fchk at g
       split at g
       ·cases g
       ·rename_i g2;cases g;intro h;exact g2 (Option.some.inj h)
    exact this l e
   | none =>
    rw [e] at h
    have hall:=findL_none.1 e
    refine ⟨by omega,fun r hr=>rchk_zero.1 ?_,?_⟩
    ·have:=hall r hr
     unfold fchk at this
     split at this
     ·assumption
     ·cases this
    ·have h:(if uniq l then (0:Int) else 7)=0:=h
     split at h
     ·assumption
     ·omega
 ·rintro ⟨h1,h2,h3⟩
  rw [if_neg (by omega)]
  have:findL fchk l=none:=findL_none.2 fun r hr=>by unfold fchk;rw [if_pos (rchk_zero.2 (h2 r hr))]
  rw [this]
  exact if_pos h3
end Go.Ab
namespace Go.Ab
open Go.Proofs
theorem strl_s {n:Nat} (h:n≤100000000):strl n=true:=strl_iff.2 (by omega)
def words12:List Str:=[[],[107,105,110,100],[112,97,116,104],[101,110,100,115],[115,111,117,114,99,101],[100,101,112,116,104],[108,101,110,103,116,104],[112,114,105,110,116],[98,101,102,111,114,101],[110,111,116],[97,110,100],[111,114]]
def wd (o:Int):Str:=words12.getD o.toNat default
theorem wd_len (o:Int):(wd o).length≤6:=by
 unfold wd
 rw [List.getD_eq_getElem?_getD]
 by_cases h:o.toNat<12
 ·have:∀i,i<12→((words12[i]?).getD default).length≤6:=by decide
  exact this _ h
 ·rw [List.getElem?_eq_none (by show words12.length≤_;simp [words12];omega)]
  decide
theorem word_eq {o:Int} (h0:0≤o) (h1:o≤11):F_d o=some (wd o):=Ok.eq (Ok.chk (inb_iff.2 ⟨h0,by show o<12;omega⟩) (Ok.ret rfl))
mutual
def GTerm.txt:GTerm→Str
 | ⟨o,t,n,p,k⟩=>if o=1∨o=2∨o=3 then wd o++[32,34]++t++[34] else if o=7 then wd o++[32]++Lib.decDigits p.toNat else if o=9 then [110,111,116,32,40]++(GTerm.txts k).headD []++[41] else if o=10∨o=11 then [40]++Lib.join (GTerm.txts k) ([32]++wd o++[32])++[41] else wd o++[32]++Lib.itoa n
def GTerm.txts:List GTerm→List Str
 | []=>[]
 | a::r=>GTerm.txt a::GTerm.txts r
end
theorem txts_map:∀l:List GTerm,GTerm.txts l=l.map GTerm.txt
 | []=>by simp [GTerm.txts]
 | a::r=>by simp only [GTerm.txts,List.map_cons,txts_map r]
theorem txt_eq (x:GTerm):x.txt=if x.Op=1∨x.Op=2∨x.Op=3 then wd x.Op++[32,34]++x.Text++[34] else if x.Op=7 then wd x.Op++[32]++Lib.decDigits x.Print.toNat else if x.Op=9 then [110,111,116,32,40]++(x.Kids.map GTerm.txt).headD []++[41] else if x.Op=10∨x.Op=11 then [40]++Lib.join (x.Kids.map GTerm.txt) ([32]++wd x.Op++[32])++[41] else wd x.Op++[32]++Lib.itoa x.Number:=by
 cases x;simp only [GTerm.txt,txts_map]
theorem Wf.p0 {x:GTerm} (h:Wf x):0≤x.Print:=by cases h;assumption
theorem Wf.p1 {x:GTerm} (h:Wf x):x.Print<18446744073709551616:=by cases h;assumption
theorem Wf.kid {x k:GTerm} (h:Wf x) (hk:k∈x.Kids):Wf k:=by cases h with|mk _ _ _ h=>exact h k hk
theorem Rgt.kinds {x:GTerm} (h:Rgt x):((x.Op=1∨x.Op=2∨x.Op=3)∧qP x.Text)∨((x.Op=4∨x.Op=5∨x.Op=6∨x.Op=8)∧0≤x.Number∧x.Number≤1099511627776)∨x.Op=7∨(x.Op=9∧∃k,x.Kids=[k])∨((x.Op=10∨x.Op=11)∧2≤x.Kids.length):=by
 rcases h.ok with h|h|h|⟨h,_,_,_,h2⟩
 ·exact .inl ⟨h.1,h.2.1⟩
 ·exact .inr (.inl ⟨h.1,h.2.2.1,h.2.2.2.1⟩)
 ·exact .inr (.inr (.inl h.1))
 ·rcases h2 with h2|h2
  ·exact .inr (.inr (.inr (.inl ⟨h2.1,List.length_eq_one_iff.1 h2.2⟩)))
  ·exact .inr (.inr (.inr (.inr ⟨by omega,h2.2⟩)))
theorem dec_len {u:Nat} (hu:u<18446744073709551616):(Lib.decDigits u).length≤20:=by
 rw [Lib.decDigits_length]
 by_cases h:1≤u
 ·have:=Lib.numDigits_eq u h hu;split at this<;>omega
 ·obtain rfl:u=0:=by omega
  exact Nat.le_of_ble_eq_true (by kernel_rfl)
theorem ita_len {n:Int} (h0:0≤n) (h1:n≤1099511627776):(Lib.itoa n).length≤20:=by
 obtain ⟨u,rfl⟩:=Int.eq_ofNat_of_zero_le h0
 rw [Lib.itoa_nonneg]
 exact dec_len (by omega)
theorem tail_len {sep:Str} (hs:sep.length≤8):∀{l:List GTerm},(∀k∈l,(k.txt.length:Int)≤60*k.cnt - 10)→((Lib.joinTail sep (l.map GTerm.txt)).length:Int)≤60*GTerm.cnts l
 | [],_=>by simp [Lib.joinTail,GTerm.cnts]
 | a::r,h=>by
  have h1:=h a (by simp)
  have h2:=tail_len hs (l:=r) fun k hk=>h k (by simp [hk])
  have e:Lib.joinTail sep ((a::r).map GTerm.txt)=sep++a.txt++Lib.joinTail sep (r.map GTerm.txt):=by simp [Lib.joinTail]
  rw [e]
  simp only [GTerm.cnts,List.length_append]
  omega
theorem join_len {sep:Str} (hs:sep.length≤8) {l:List GTerm} (h:∀k∈l,(k.txt.length:Int)≤60*k.cnt - 10):((Lib.join (l.map GTerm.txt) sep).length:Int)≤60*GTerm.cnts l:=by
 cases l with
 | nil=>simp [Lib.join_nil,GTerm.cnts]
 | cons a r =>
  rw [List.map_cons,Lib.join_cons]
  have h1:=h a (by simp)
  have h2:=tail_len hs (l:=r) fun k hk=>h k (by simp [hk])
  simp only [GTerm.cnts,List.length_append]
  omega
theorem sep_len (o:Int):(([32]:Str)++wd o++[32]).length≤8:=by have:=wd_len o;simp;omega
theorem txt_len:∀x:GTerm,Rgt x→Wf x→(x.txt.length:Int)≤60*x.cnt - 10:=by
 refine GTerm.ind fun x ih hx hw=>?_
 have hk:∀k∈x.Kids,(k.txt.length:Int)≤60*k.cnt - 10:=fun k hk=>ih k hk (hx.kid hk) (hw.kid hk)
 have hwl:=wd_len x.Op
 have hcl:=cnts_len x.Kids
 rw [txt_eq,cnt_eq]
 rcases hx.kinds with ⟨h,h1⟩|⟨h,h1,h2⟩|h|⟨h,k,h1⟩|⟨h,h1⟩
 ·rw [if_pos h]
  have:=h1.2.2
  simp;omega
 ·rw [if_neg (by omega),if_neg (by omega),if_neg (by omega),if_neg (by omega)]
  have:=ita_len h1 h2
  simp;omega
 ·rw [if_neg (by omega),if_pos h]
  have:=dec_len (u:=x.Print.toNat) (by have:=hw.p0;have:=hw.p1;omega)
  simp;omega
 ·rw [if_neg (by omega),if_neg (by omega),if_pos h,h1]
  have:=hk k (by rw [h1];simp)
  simp [GTerm.cnts];omega
 ·rw [if_neg (by omega),if_neg (by omega),if_neg (by omega),if_pos h]
  have:=join_len (sep_len x.Op) hk
  simp only [List.length_append,List.length_cons,List.length_nil] at this ⊢
  omega
theorem write_ok:∀(x:GTerm) (m:Nat),x.hgt≤m→Rgt x→Wf x→x.cnt≤1000→Ok (FR_6 m x) (·=x.txt):=by
 refine GTerm.ind fun x ih m hm hx hw hc=>?_
 obtain ⟨m,rfl⟩:∃n,m=n+1:=⟨m - 1,by have:=hgt_pos x;omega⟩
 have ihk:∀k∈x.Kids,Ok (FR_6 m k) (·=k.txt):=fun k hk=>ih k hk m (by have:=kid_hgt hk;omega) (hx.kid hk) (hw.kid hk) (by have:=kid_cnt hk;omega)
 have hkl:∀k∈x.Kids,(k.txt.length:Int)≤60*k.cnt - 10:=fun k hk=>txt_len k (hx.kid hk) (hw.kid hk)
 have htl:=txt_len x hx hw
 have hwl:=wd_len x.Op
 have hcl:=kids_cnt x
 have ho:0≤x.Op∧x.Op≤11:=by rcases hx.kinds with ⟨h,_⟩|⟨h,_⟩|h|⟨h,_⟩|⟨h,_⟩<;>omega
 have hwo:=word_eq ho.1 ho.2
 have htx:=txt_eq x
 rw [FR_6]
 refine Ok.jn (P:=fun b=>b=decide (x.Op=1∨x.Op=2∨x.Op=3)) (Ok.ite (fun c=>Ok.ret (by simpa using .inl (of_decide_eq_true c))) fun c=>Ok.ite (fun c2=>Ok.ret (by simpa using .inr (.inl (of_decide_eq_true c2)))) fun c2=>Ok.ret (by simp at c c2;simp [c,c2])) fun b hb=>?_
 subst hb
 refine Ok.ite (fun c=>?_) fun c=>?_
 ·have c:=of_decide_eq_true c
  rw [if_pos c] at htx
  have hq:qP x.Text:=by rcases hx.kinds with h|h|h|h|h<;>first|exact h.2|omega
  have:=hq.2.2
  rw [hwo,Option.bind_some,htx]
  refine Ok.chk (strl_s (by simp;omega)) (Ok.chk (strl_s (by simp;omega)) (Ok.chk (strl_s (by simp;omega)) (Ok.ret rfl)))
 ·have c:=of_decide_eq_false c
  rw [if_neg c] at htx
  refine Ok.ite (fun c7=>?_) fun c7=>?_
  ·have c7:=of_decide_eq_true c7
   rw [if_pos c7] at htx
   have hp0:=hw.p0;have hp1:=hw.p1
   have hd:=dec_len (u:=x.Print.toNat) (by omega)
   have hf:futI x.Print 10=some (Lib.decDigits x.Print.toNat):=Ok.eq (Ok.chk (by simp;omega) (Ok.ret rfl))
   rw [hwo,Option.bind_some,hf,htx]
   refine Ok.chk (strl_s (by simp;omega)) ?_
   rw [Option.bind_some]
   exact Ok.chk (strl_s (by simp;omega)) (Ok.ret rfl)
  ·have c7:=of_decide_eq_false c7
   rw [if_neg c7] at htx
   refine Ok.ite (fun c9=>?_) fun c9=>?_
   ·have c9:=of_decide_eq_true c9
    rw [if_pos c9] at htx
    obtain ⟨k,hk⟩:∃k,x.Kids=[k]:=by rcases hx.kinds with ⟨h,_⟩|⟨h,_⟩|h|⟨h,h1⟩|⟨h,_⟩<;>first|exact h1|omega
    have hm:k∈x.Kids:=by rw [hk];simp
    have hg:x.Kids.getD 0 default=k:=by rw [hk];rfl
    have:=hkl k hm
    have:=kid_cnt hm
    rw [hg,htx,hk]
    refine Ok.chk (inb_iff.2 ⟨by omega,by simp⟩) (Ok.bind (ihk k hm) fun y hy=>?_)
    subst hy
    exact Ok.chk (strl_s (by simp;omega)) (Ok.chk (strl_s (by simp;omega)) (Ok.ret rfl))
   ·have c9:=of_decide_eq_false c9
    rw [if_neg c9] at htx
    refine Ok.jn (P:=fun b=>b=decide (x.Op=10∨x.Op=11)) (Ok.ite (fun c=>Ok.ret (by simpa using .inl (of_decide_eq_true c))) fun c=>Ok.ret (by simp at c;simp [c])) fun b hb=>?_
    subst hb
    refine Ok.ite (fun c3=>?_) fun c3=>?_
    ·have c3:=of_decide_eq_true c3
     rw [if_pos c3] at htx
     have hjl:=join_len (sep_len x.Op) hkl
     refine Ok.bind (Ok.foldI (all:=x.Kids) (Q:=fun o=>o=x.Kids.map GTerm.txt) (fun pre s=>s=pre.map GTerm.txt) x.Kids [] 0 _ rfl rfl rfl (fun pre k r s hw2 hs=>?_) fun s hs=>hs) fun o ho=>?_
     ·refine Ok.bind (ihk k (mem_at hw2)) fun y hy=>?_
      subst hy hs
      have:=len_at hw2
      exact Ok.chk (room_s (by simp;omega)) (Ok.ret (by simp))
     ·subst ho
      have hcq:=cnt_eq x
      have hj:joinI (x.Kids.map GTerm.txt) ([32]++wd x.Op++[32])=some (Lib.join (x.Kids.map GTerm.txt) ([32]++wd x.Op++[32])):=Ok.eq (Ok.chk (by
       rw [Bool.and_eq_true,decide_eq_true_eq,decide_eq_true_eq]
       exact ⟨by rw [List.length_map];omega,by omega⟩) (Ok.ret rfl))
      rw [hwo,Option.bind_some]
      refine Ok.chk (strl_s (by simp;omega)) (Ok.chk (strl_s (by simp;omega)) ?_)
      rw [hj,Option.bind_some,htx]
      exact Ok.chk (strl_s (by simp only [List.length_cons,List.length_nil];omega)) (Ok.chk (strl_s (by rw [List.length_append];simp only [List.length_cons,List.length_nil];omega)) (Ok.ret rfl))
    ·have c3:=of_decide_eq_false c3
     rw [if_neg c3] at htx
     have hn:0≤x.Number∧x.Number≤1099511627776:=by rcases hx.kinds with ⟨h,_⟩|⟨h,h1⟩|h|⟨h,h1⟩|⟨h,_⟩<;>first|exact h1|omega
     have hil:=ita_len hn.1 hn.2
     have hi:itoaI x.Number=some (Lib.itoa x.Number):=Ok.eq (Ok.chk (in64_s (by omega) (by omega)) (Ok.ret rfl))
     rw [hwo,Option.bind_some,hi,htx]
     refine Ok.chk (strl_s (by simp;omega)) ?_
     rw [Option.bind_some]
     exact Ok.chk (strl_s (by simp;omega)) (Ok.ret rfl)
theorem write_eq {x:GTerm} (hx:Rgt x) (hw:Wf x) (hc:x.cnt≤1000):F_6 x=some x.txt:=lim_of ⟨x.hgt,fun m hm=>(write_ok x m hm hx hw hc).eq⟩
def vw (v:Int):Str:=if v=2 then [58,32,102,97,108,115,101,32,105,102,32] else [58,32,114,101,97,108,32,105,102,32]
def GRule.line (r:GRule):Str:=r.Name++vw r.Verdict++r.When.txt++[10]
def rtxt (l:List GRule):Str:=(l.map GRule.line).flatten
theorem vw_len (v:Int):(vw v).length≤11:=by unfold vw;split<;>simp
theorem line_len {r:GRule} (h1:nameP r.Name) (h2:PV r.When) (hw:Wf r.When):r.line.length≤3700:=by
 have:=txt_len r.When h2.rgt hw
 have:=h2.cnt
 have:=h1.2.2
 have:=vw_len r.Verdict
 unfold GRule.line
 simp;omega
theorem rtxt_len:∀{l:List GRule},(∀r∈l,r.line.length≤3700)→(rtxt l).length≤3700*l.length
 | [],_=>by simp [rtxt]
 | a::r,h=>by
  have h1:=h a (by simp)
  have h2:=rtxt_len (l:=r) fun k hk=>h k (by simp [hk])
  simp only [rtxt,List.map_cons,List.flatten_cons,List.length_append,List.length_cons] at h2 ⊢
  omega
theorem text_eq {l:List GRule} (h:VR' l) (hw:∀r∈l,Wf r.When):F_1e l=some (rtxt l):=by
 have hll:∀r∈l,r.line.length≤3700:=fun r hr=>line_len (h.r r hr).1 (h.r r hr).2.1 (hw r hr)
 have hn:=h.n
 refine Ok.eq ?_
 unfold F_1e
 refine Ok.bind (Ok.foldI (all:=l) (Q:=fun o=>o=rtxt l) (fun pre s=>s=rtxt pre) l [] 0 [] rfl rfl rfl (fun pre r q s hw2 hs=>?_) fun s hs=>hs) fun o ho=>?_
 ·have hr:=mem_at hw2
  have hpl:=rtxt_len (l:=pre) fun k hk=>hll k (by rw [hw2];simp [hk])
  have hlt:=len_at hw2
  have h1:=(h.r r hr).1.2.2
  have h2:=(h.r r hr).2.1
  have h3:=txt_len r.When h2.rgt (hw r hr)
  have h4:=h2.cnt
  have h5:=vw_len r.Verdict
  have h6:=hll r hr
  unfold F_1u
  refine Ok.jn (P:=fun j=>j=vw r.Verdict) (Ok.ite (fun c=>Ok.ret (by unfold vw;rw [if_pos (of_decide_eq_true c)])) fun c=>Ok.ret (by unfold vw;rw [if_neg (of_decide_eq_false c)])) fun j hj=>?_
  subst hj hs
  rw [write_eq h2.rgt (hw r hr) (by omega),Option.bind_some]
  refine Ok.chk (strl_s (by omega)) (Ok.chk (strl_s (by simp;omega)) (Ok.chk (strl_s (by simp;omega)) ?_))
  have hb:bws (rtxt pre) (r.Name++vw r.Verdict++r.When.txt++[10])=some (rtxt pre++r.line):=Ok.eq (Ok.chk (room_iff.2 (by
   have:(r.Name++vw r.Verdict++r.When.txt++[10]).length=r.line.length:=rfl
   omega)) (Ok.ret rfl))
  rw [hb]
  exact Ok.ret (by simp [rtxt])
 ·subst ho
  exact Ok.ret rfl
end Go.Ab
namespace Go.Ab
open Go.Proofs
theorem rtake_yes {r:Greader} {p q:Str} (h:r.text_=p++q):F_5 r p=some (true,Greader.mk q r.wrong_):=by
 have h2:F_1d r.text_ p=some (q,true):=by
  refine Ok.eq ?_
  unfold F_1d
  have h1:F_11 r.text_ p=some true:=by
   refine Ok.eq ?_
   unfold F_11
   refine Ok.jn (P:=fun v=>v=true) (Ok.ite (fun c=>Ok.chk (inc_iff.2 ⟨by omega,by omega,by rw [h,List.length_append];omega⟩) (Ok.ret ?_)) fun c=>?_) fun v hv=>Ok.ret hv
   ·rw [h];simp
   ·have c:=of_decide_eq_false c
    rw [h] at c;simp at c
    omega
  rw [h1,Option.bind_some]
  refine Ok.ite (fun c=>by cases c) fun _=>Ok.chk (inc_iff.2 ⟨by omega,by rw [h,List.length_append];omega,by omega⟩) (Ok.ret ?_)
  rw [h,Int.toNat_natCast];simp
 unfold F_5 F_k
 rw [h2];rfl
theorem rtake_no {r:Greader} {p:Str} (h:r.text_.take p.length≠p):F_5 r p=some (false,r):=by
 have h2:F_1d r.text_ p=some (r.text_,false):=by
  unfold F_1d
  have h1:F_11 r.text_ p=some false:=by
   refine Ok.eq ?_
   unfold F_11
   refine Ok.jn (P:=fun v=>v=false) (Ok.ite (fun c=>Ok.chk (inc_iff.2 ⟨by omega,by omega,by have:=of_decide_eq_true c;omega⟩) (Ok.ret ?_)) fun c=>Ok.ret rfl) fun v hv=>Ok.ret hv
   rw [Int.toNat_natCast];exact decide_eq_false h
  rw [h1];rfl
 unfold F_5 F_k
 rw [h2];cases r;rfl
theorem rneed_yes {r:Greader} {p q:Str} (h:r.text_=p++q):F_q r p=some (Greader.mk q r.wrong_):=by
 unfold F_q
 rw [rtake_yes h];rfl
theorem pre_space:∀{a b q r:Str},(32:UInt8)∉a→(32:UInt8)∉b→a++32::q=b++32::r→a=b
 | [],[],_,_,_,_,_=>rfl
 | [],c::b,q,r,_,hb,h=>by
  simp only [List.nil_append,List.cons_append,List.cons.injEq] at h
  exact absurd (by rw [h.1];simp) hb
 | c::a,[],q,r,ha,_,h=>by
  simp only [List.nil_append,List.cons_append,List.cons.injEq] at h
  exact absurd (by rw [h.1];simp) ha
 | c::a,d::b,q,r,ha,hb,h=>by
  simp only [List.cons_append,List.cons.injEq] at h
  have:=pre_space (fun k=>ha (by simp [k])) (fun k=>hb (by simp [k])) h.2
  rw [h.1,this]
theorem words_sp:∀i,i<12→(32:UInt8)∉words12.getD i default:=by decide
theorem words_inj:∀i,i<12→∀j,j<12→words12.getD i default=words12.getD j default→i=j:=by decide
theorem wd_no {o p:Int} (h0:0≤o) (h1:o<12) (h2:0≤p) (h3:p<12) (hne:o≠p) (q:Str) (w:Bool):F_5 (Greader.mk (wd o++32::q) w) (wd p++[32])=some (false,Greader.mk (wd o++32::q) w):=by
 refine rtake_no fun h=>hne ?_
 have h:(wd o++32::q).take (wd p++[32]).length=wd p++[32]:=h
 have e:wd o++32::q=wd p++32::((wd o++32::q).drop (wd p++[32]).length):=by
  have:=List.take_append_drop (wd p++[32]).length (wd o++32::q)
  rw [h] at this
  rw [←this];simp
 have:=pre_space (words_sp _ (by omega)) (words_sp _ (by omega)) e
 have:=words_inj _ (by omega) _ (by omega) this
 omega
theorem dig_bounds (u:Nat):∀c∈Lib.decDigits u,48≤c.toNat∧c.toNat≤57:=by
 induction u using Nat.strongRecOn with
 | _ u ih =>
  intro c hc
  rw [Lib.decDigits] at hc
  split at hc
  ·rename_i h
   simp at hc;subst hc
   simp;omega
  ·rcases List.mem_append.1 hc with hc|hc
   ·exact ih (u / 10) (by omega) c hc
   ·simp at hc;subst hc
    simp;omega
theorem parse_dig (u:Nat) (h:u≤18446744073709551615) (l:Str):Lib.parseUint10 0 (Lib.decDigits u++l)=Lib.parseUint10 u l:=by
 induction u using Nat.strongRecOn generalizing l with
 | _ u ih =>
  rw [Lib.decDigits]
  split
  ·rename_i hu
   have e:(UInt8.ofNat (48+u)).toNat=48+u:=by simp;omega
   simp only [List.cons_append,List.nil_append,Lib.parseUint10,e]
   rw [if_pos (by omega),if_neg (by omega),if_neg (by omega)]
   congr 1;omega
  ·rename_i hu
   rw [List.append_assoc,ih (u / 10) (by omega) (by omega)]
   have e:(UInt8.ofNat (48+u % 10)).toNat=48+u % 10:=by simp;omega
   simp only [List.cons_append,List.nil_append,Lib.parseUint10,e]
   rw [if_pos (by omega),if_neg (by omega),if_neg (by omega)]
   congr 1;omega
theorem dec_ne (u:Nat):Lib.decDigits u≠[]:=by rw [Lib.decDigits];split<;>simp
theorem mag_dig (u:Nat) (h:u≤18446744073709551615):Lib.parseMag (Lib.decDigits u)=.ok u:=by
 have hp:=parse_dig u h []
 rw [List.append_nil] at hp
 unfold Lib.parseMag
 rw [if_neg (dec_ne u),hp];rfl
theorem atoiE_itoa {n:Int} (h0:0≤n) (h:n≤1099511627776):atoiE (Lib.itoa n)=some (n,true):=by
 obtain ⟨u,rfl⟩:=Int.eq_ofNat_of_zero_le h0
 have hl:=ita_len h0 h
 rw [Lib.itoa_nonneg] at hl ⊢
 have hb:=dig_bounds u
 have ha:Lib.atoiAll (Lib.decDigits u)=.ok (u:Int):=by
  cases hd:Lib.decDigits u with
  | nil=>exact absurd hd (dec_ne u)
  | cons c r =>
   have h1:=hb c (by rw [hd];simp)
   rw [Lib.atoiAll_plain c r (by omega) (by omega),←hd,mag_dig u (by omega)]
   simp only [Lib.signless]
   rw [if_neg (by omega)]
 refine Ok.eq (Ok.chk (decide_eq_true (by omega)) (Ok.ret ?_))
 unfold atoiV atoiB
 rw [ha]
theorem puE_dec {u:Nat} (h:u≤18446744073709551615):puE (Lib.decDigits u) 10 64=some ((u:Int),true):=by
 have hl:=dec_len (u:=u) (by omega)
 refine Ok.eq (Ok.chk (by simp;omega) (Ok.ret ?_))
 rw [Lib.parseUintB_64,mag_dig u h]
def digs:Str:=[48,49,50,51,52,53,54,55,56,57]
theorem dig_mem {c:UInt8} (h:48≤c.toNat∧c.toNat≤57):digs.contains c=true:=by
 have:∀i,i<10→digs.contains (UInt8.ofNat (48+i))=true:=by decide
 have h2:=this (c.toNat - 48) (by omega)
 rw [show 48+(c.toNat - 48)=c.toNat by omega] at h2
 simpa using h2
def endn (q:Str):Prop:=q=[]∨∃b t,q=b::t∧(b=41∨b=32)
theorem dropD:∀{s q:Str},(∀c∈s,48≤c.toNat∧c.toNat≤57)→endn q→(s++q).dropWhile (digs.contains ·)=q
 | [],q,_,h=>by
  rcases h with rfl|⟨b,t,rfl,h⟩
  ·rfl
  ·have:digs.contains b=false:=by rcases h with rfl|rfl<;>decide
   show (b::t).dropWhile (digs.contains ·)=b::t
   rw [List.dropWhile_cons,this];rfl
 | a::r,q,hs,h=>by
  rw [List.cons_append,List.dropWhile_cons,dig_mem (hs a (by simp))]
  exact dropD (fun c hc=>hs c (by simp [hc])) h
theorem digits_back {s q:Str} {w:Bool} (hs:∀c∈s,48≤c.toNat∧c.toNat≤57) (hq:endn q) (hl:(s++q).length≤100000000):F_w (Greader.mk (s++q) w)=some (s,Greader.mk q w):=by
 have ht:trimLI (s++q) [48,49,50,51,52,53,54,55,56,57]=some q:=Ok.eq (Ok.chk (by decide) (Ok.ret (dropD hs hq)))
 have e1:(((s++q).length:Int) - (q.length:Int))=s.length:=by rw [List.length_append];omega
 refine Ok.eq ?_
 unfold F_w
 dsimp only
 rw [ht,Option.bind_some,e1,Int.toNat_natCast,List.take_left]
 exact Ok.chk (in64_s (by omega) (by rw [List.length_append] at hl;omega)) (Ok.chk (inc_iff.2 ⟨by omega,by omega,by rw [List.length_append];omega⟩) (Ok.ret rfl))
theorem index_app (c:UInt8):∀(l r:Str),(∀x∈l,x≠c)→Lib.indexByte (l++c::r) c=l.length
 | [],r,_=>by simp [Lib.indexByte]
 | x::l,r,h=>by
  have hx:(x==c)=false:=by simpa using h x (by simp)
  have ih:=index_app c l r fun y hy=>h y (by simp [hy])
  simp only [List.cons_append,Lib.indexByte,hx,ih,List.length_cons]
  have:¬((l.length:Int)==-1)=true:=by simp
  simp [this]
theorem cut_eq {l r:Str} {c:UInt8} (h:∀x∈l,x≠c) (hl:(l++c::r).length≤100000000):F_v (l++c::r) [c]=some (l,r,true):=by
 have ei:ix1 (l++c::r) [c]=some (l.length:Int):=by
  show some (Lib.indexByte (l++c::r) c)=_
  rw [index_app c l r h]
 have hl2:l.length+1≤(l++c::r).length:=by simp
 have e2:(l.length:Int)+(([c]:Str).length:Int)=l.length+1:=by simp
 have e4:((l.length:Int)+1).toNat=l.length+1:=by omega
 have e6:(l++c::r).drop (l.length+1)=r:=by simp
 have hc:F_1m (l++c::r) [c]=some (l,r,true):=by
  refine Ok.eq ?_
  unfold F_1m
  rw [ei,Option.bind_some,e2]
  refine Ok.ite (fun _=>Ok.chk (inc_iff.2 ⟨by omega,by omega,by omega⟩) (Ok.chk (in64_s (by omega) (by omega)) (Ok.chk (inc_iff.2 ⟨by omega,by omega,by omega⟩) (Ok.ret ?_)))) fun f=>by simp at f
  rw [Int.toNat_natCast,e4,List.take_left,e6]
 unfold F_v
 rw [hc];rfl
theorem simple_step {x:GTerm} {o:Int} {q:Str} {w:Bool} (h0:1≤o) (h1:o<x.Op) (h2:x.Op≤8):F_y (o,Greader.mk (wd x.Op++32::q) w)=some (.nx (o+1,Greader.mk (wd x.Op++32::q) w)):=by
 have hl:=wd_len o
 refine Ok.eq ?_
 unfold F_y
 refine Ok.ite (fun _=>?_) fun f=>by have:=of_decide_eq_false f;dsimp only at this;omega
 dsimp only
 rw [word_eq (by omega) (by omega),Option.bind_some]
 refine Ok.chk (strl_s (by simp;omega)) ?_
 rw [wd_no (by omega) (by omega) (by omega) (by omega) (by omega),Option.bind_some]
 exact Ok.ite (fun _=>Ok.chk (in64_s (by omega) (by omega)) (Ok.ret rfl)) fun f=>by cases f
theorem simple_skip {x:GTerm} {q:Str} {w:Bool} (h2:x.Op≤8):∀(k:Nat) (o:Int),1≤o→o+k=x.Op→loop F_y (o,Greader.mk (wd x.Op++32::q) w)=loop F_y (x.Op,Greader.mk (wd x.Op++32::q) w)
 | 0,o,h0,h1=>by
  have:o=x.Op:=by omega
  rw [this]
 | k+1,o,h0,h1=>by
  rw [loop_eq,simple_step h0 (by omega) h2]
  exact simple_skip h2 k (o+1) (by omega) (by omega)
theorem simple_back {x:GTerm} (hx:Rgt x) (hw:Wf x) (ho:1≤x.Op∧x.Op≤8) {q:Str} (hq:endn q) (hl:(x.txt++q).length≤100000000):F_13 (Greader.mk (x.txt++q) false)=some (x,Greader.mk q false):=by
 have htx:=txt_eq x
 have hwl:=wd_len x.Op
 obtain ⟨R,hR,hB⟩:∃R,x.txt++q=wd x.Op++32::R∧F_y (x.Op,Greader.mk (wd x.Op++32::R) false)=some (.ex (.inr (x,Greader.mk q false))):=by
  have start:∀(R:Str) (Q:Fl (Int×Greader) (Sum Greader (GTerm×Greader))→Prop),Ok (jn (α:=Bool) (bif decide (x.Op=1) then some true else bif decide (x.Op=2) then some true else some (decide (x.Op=3))) fun j554=>bif j554 then (F_q (Greader.mk R false) [34]).bind fun y556=>(F_v y556.text_ [34]).bind fun y558=>grp ((y556.wrong_||(!y558.2.2))) fun b559=>some (.ex (.inr ((GTerm.mk x.Op y558.1 0 0 []),(Greader.mk y558.2.1 b559)))) else bif decide (x.Op=7) then (F_w (Greader.mk R false)).bind fun y562=>(puE y562.1 10 64).bind fun y563=>grp ((y562.2.wrong_||(!y563.2))) fun b564=>some (.ex (.inr ((GTerm.mk x.Op [] 0 y563.1 []),(Greader.mk y562.2.text_ b564)))) else (F_w (Greader.mk R false)).bind fun y567=>(atoiE y567.1).bind fun y568=>grp ((y567.2.wrong_||(!y568.2))) fun b569=>some (.ex (.inr ((GTerm.mk x.Op [] y568.1 0 []),(Greader.mk y567.2.text_ b569))))) Q→Ok (F_y (x.Op,Greader.mk (wd x.Op++32::R) false)) Q:=by
   intro R Q h
   unfold F_y
   refine Ok.ite (fun _=>?_) fun f=>by have:=of_decide_eq_false f;dsimp only at this;omega
   dsimp only
   rw [word_eq (by omega) (by omega),Option.bind_some]
   refine Ok.chk (strl_s (by simp;omega)) ?_
   rw [rtake_yes (q:=R) (by simp),Option.bind_some]
   exact Ok.ite (fun f=>by cases f) fun _=>h
  rcases hx.ok with ⟨h,h1,h2,h3,h4⟩|⟨h,h1,h2,h3,h4,h5⟩|⟨h,h1,h2,h3⟩|⟨h,_⟩
  ·rw [if_pos h] at htx
   have hx2:x=GTerm.mk x.Op x.Text 0 0 []:=by
    cases x
    dsimp only at h2 h3 h4
    subst h2 h3 h4
    rfl
   refine ⟨34::(x.Text++34::q),by rw [htx];simp,?_⟩
   rw [htx] at hl
   refine Ok.eq (start _ _ (Ok.jn (P:=fun b=>b=true) (Ok.ite (fun _=>Ok.ret rfl) fun c=>Ok.ite (fun _=>Ok.ret rfl) fun c2=>Ok.ret (decide_eq_true (by have:=of_decide_eq_false c;have:=of_decide_eq_false c2;omega))) fun b hb=>?_))
   subst hb
   refine Ok.ite (fun _=>?_) fun f=>by cases f
   rw [rneed_yes (q:=x.Text++34::q) rfl,Option.bind_some]
   dsimp only
   rw [cut_eq (fun c hc e=>by have:=(h1.1 c hc).2.2;rw [e] at this;exact this rfl) (by simp at hl ⊢;omega),Option.bind_some]
   refine Ok.grp (Ok.ret ?_)
   dsimp only
   rw [←hx2];rfl
  ·rw [if_neg (by omega),if_neg (by omega),if_neg (by omega),if_neg (by omega)] at htx
   have hx2:x=GTerm.mk x.Op [] x.Number 0 []:=by
    cases x
    dsimp only at h1 h4 h5
    subst h1 h4 h5
    rfl
   refine ⟨Lib.itoa x.Number++q,by rw [htx];simp,?_⟩
   rw [htx] at hl
   have n1:decide (x.Op=1)=false:=decide_eq_false (by omega)
   have n2:decide (x.Op=2)=false:=decide_eq_false (by omega)
   have n3:decide (x.Op=3)=false:=decide_eq_false (by omega)
   have n7:decide (x.Op=7)=false:=decide_eq_false (by omega)
   refine Ok.eq (start _ _ ?_)
   rw [n1,n2,n3,n7]
   refine Ok.jn (P:=fun b=>b=false) (Ok.ret rfl) fun b hb=>?_
   subst hb
   refine Ok.ite (fun f=>by cases f) fun _=>Ok.ite (fun f=>by cases f) fun _=>?_
   have hd:∀c∈Lib.itoa x.Number,48≤c.toNat∧c.toNat≤57:=by
    obtain ⟨u,hu⟩:=Int.eq_ofNat_of_zero_le h2
    rw [hu,Lib.itoa_nonneg]
    exact dig_bounds u
   rw [digits_back hd hq (by simp at hl ⊢;omega),Option.bind_some,atoiE_itoa h2 h3,Option.bind_some]
   refine Ok.grp (Ok.ret ?_)
   dsimp only
   rw [←hx2];rfl
  ·rw [if_neg (by omega),if_pos h] at htx
   have hp0:=hw.p0;have hp1:=hw.p1
   have hx2:x=GTerm.mk x.Op [] 0 x.Print []:=by
    cases x
    dsimp only at h1 h2 h3
    subst h1 h2 h3
    rfl
   refine ⟨Lib.decDigits x.Print.toNat++q,by rw [htx];simp,?_⟩
   rw [htx] at hl
   have n1:decide (x.Op=1)=false:=decide_eq_false (by omega)
   have n2:decide (x.Op=2)=false:=decide_eq_false (by omega)
   have n3:decide (x.Op=3)=false:=decide_eq_false (by omega)
   have n7:decide (x.Op=7)=true:=decide_eq_true h
   refine Ok.eq (start _ _ ?_)
   rw [n1,n2,n3,n7]
   refine Ok.jn (P:=fun b=>b=false) (Ok.ret rfl) fun b hb=>?_
   subst hb
   refine Ok.ite (fun f=>by cases f) fun _=>Ok.ite (fun _=>?_) fun f=>by cases f
   rw [digits_back (dig_bounds _) hq (by simp at hl ⊢;omega),Option.bind_some,puE_dec (by omega),Option.bind_some]
   refine Ok.grp (Ok.ret ?_)
   dsimp only
   rw [show ((x.Print.toNat:Nat):Int)=x.Print by omega,←hx2];rfl
  ·omega
 refine Ok.eq ?_
 unfold F_13
 rw [hR,simple_skip ho.2 (x.Op - 1).toNat 1 (by omega) (by omega),loop_eq,hB]
 show Ok ((some (Sum.inr (x,Greader.mk q false))).bind _) _
 rw [Option.bind_some,Sum_inr]
 exact Ok.ret rfl
end Go.Ab
namespace Go.Ab
open Go.Proofs
noncomputable def clF (n:Nat) (deep_:Int) (x148:Int×(List GTerm)×Greader):Option (Fl (Int×(List GTerm)×Greader) (Int×(List GTerm)×Greader)):=(F_d x148.1).bind fun y164=>chk (strl ([32].length+y164.length)) (chk (strl ((([32]:Str)++y164).length+[32].length)) ((F_5 x148.2.2 ((([32]:Str)++y164)++[32])).bind fun y165=>bif y165.1 then chk (in64 (deep_+1)) ((FR_0 n y165.2 (deep_+1)).bind fun y166=>chk (room (x148.2.1.length+[y166.1].length) 64) (some (.nx (x148.1,(x148.2.1++[y166.1]),y166.2)))) else some (.ex (x148.1,x148.2.1,y165.2))))
def sepT (o:Int):Str:=([32]:Str)++wd o++[32]
theorem tail_head (o:Int) (l:List GTerm) (q:Str):∃b t,Lib.joinTail (sepT o) (l.map GTerm.txt)++41::q=b::t∧(b=41∨b=32):=by
 cases l with
 | nil=>exact ⟨41,q,rfl,.inl rfl⟩
 | cons a r=>exact ⟨32,wd o++[32]++a.txt++Lib.joinTail (sepT o) (r.map GTerm.txt)++41::q,by simp [Lib.joinTail,sepT],.inr rfl⟩
theorem cl_loop {n:Nat} {d o:Int} {q:Str} (ho:o=10∨o=11) (hd:0≤d) (hd2:d≤100):∀(l pre:List GTerm),(∀k∈l,∀q',endn q'→(k.txt++q').length≤(Lib.joinTail (sepT o) (l.map GTerm.txt)++41::q).length→FR_0 n (Greader.mk (k.txt++q') false) (d+1)=some (k,Greader.mk q' false))→pre.length+l.length≤1001→loop (clF n d) (o,pre,Greader.mk (Lib.joinTail (sepT o) (l.map GTerm.txt)++41::q) false)=some (o,pre++l,Greader.mk (41::q) false)
 | [],pre,h,hl=>by
  have hwl:=wd_len o
  rw [loop_eq]
  have:clF n d (o,pre,Greader.mk (41::q) false)=some (.ex (o,pre,Greader.mk (41::q) false)):=by
   refine Ok.eq ?_
   unfold clF
   dsimp only
   rw [word_eq (by omega) (by omega),Option.bind_some]
   refine Ok.chk (strl_s (by simp;omega)) (Ok.chk (strl_s (by simp;omega)) ?_)
   rw [rtake_no (by
    show (41::q).take _≠_
    intro h
    have:=congrArg List.head? h
    simp at this),Option.bind_some]
   exact Ok.ite (fun f=>by cases f) fun _=>Ok.ret rfl
  show ((clF n d (o,pre,Greader.mk (41::q) false)).bind _)=_
  rw [this,List.append_nil];rfl
 | k::l,pre,h,hl=>by
  have hwl:=wd_len o
  simp only [List.length_cons] at hl
  have e:Lib.joinTail (sepT o) ((k::l).map GTerm.txt)++41::q=sepT o++(k.txt++(Lib.joinTail (sepT o) (l.map GTerm.txt)++41::q)):=by simp [Lib.joinTail]
  have en:endn (Lib.joinTail (sepT o) (l.map GTerm.txt)++41::q):=.inr (tail_head o l q)
  rw [loop_eq]
  have:clF n d (o,pre,Greader.mk (Lib.joinTail (sepT o) ((k::l).map GTerm.txt)++41::q) false)=some (.nx (o,pre++[k],Greader.mk (Lib.joinTail (sepT o) (l.map GTerm.txt)++41::q) false)):=by
   refine Ok.eq ?_
   unfold clF
   dsimp only
   rw [word_eq (by omega) (by omega),Option.bind_some]
   refine Ok.chk (strl_s (by simp;omega)) (Ok.chk (strl_s (by simp;omega)) ?_)
   rw [rtake_yes (q:=k.txt++(Lib.joinTail (sepT o) (l.map GTerm.txt)++41::q)) e,Option.bind_some]
   refine Ok.ite (fun _=>Ok.chk (in64_s (by omega) (by omega)) ?_) fun f=>by cases f
   dsimp only
   rw [h k (by simp) _ en (by rw [e];simp only [List.length_append,List.length_cons];omega),Option.bind_some]
   exact Ok.chk (room_s (by simp;omega)) (Ok.ret rfl)
  rw [this,Option.bind_some]
  have:=cl_loop (n:=n) (q:=q) ho hd hd2 l (pre++[k]) (fun a ha q' n1 n2=>h a (by simp [ha]) q' n1 (by rw [e];simp only [List.length_append,List.length_cons] at n2 ⊢;omega)) (by simp;omega)
  rw [show pre++k::l=pre++[k]++l by simp]
  exact this
theorem wd_head:∀i,1≤i→i≤8→∃b t,words12.getD i default=b::t∧b≠110∧b≠40:=by
 intro i h1 h2
 have:i=1∨i=2∨i=3∨i=4∨i=5∨i=6∨i=7∨i=8:=by omega
 rcases this with rfl|rfl|rfl|rfl|rfl|rfl|rfl|rfl<;>exact ⟨_,_,rfl,by decide,by decide⟩
theorem head_no {b:UInt8} {t p:Str} {c:UInt8} {w:Bool} (h:b≠c):F_5 (Greader.mk (b::t) w) (c::p)=some (false,Greader.mk (b::t) w):=rtake_no (by
 show (b::t).take _≠_
 intro e
 have:=congrArg List.head? e
 simp at this
 exact h this)
theorem cond_back:∀(x:GTerm) (m:Nat) (d:Int) (q:Str),x.hgt≤m→Rgt x→Wf x→x.cnt≤1000→0≤d→d+x.hgt≤21→endn q→(x.txt++q).length≤100000000→FR_0 m (Greader.mk (x.txt++q) false) d=some (x,Greader.mk q false):=by
 refine GTerm.ind fun x ih m d q hm hx hw hc hd hd2 hq hl=>?_
 have hp:=hgt_pos x
 obtain ⟨m,rfl⟩:∃n,m=n+1:=⟨m - 1,by omega⟩
 have ihk:∀k∈x.Kids,∀q',endn q'→(k.txt++q').length≤100000000→FR_0 m (Greader.mk (k.txt++q') false) (d+1)=some (k,Greader.mk q' false):=fun k hk q' h1 h2=>ih k hk m (d+1) q' (by have:=kid_hgt hk;omega) (hx.kid hk) (hw.kid hk) (by have:=kid_cnt hk;omega) (by omega) (by have:=kid_hgt hk;omega) h1 h2
 have htx:=txt_eq x
 have hkc:=kids_cnt x
 refine Ok.eq ?_
 rw [FR_0]
 refine Ok.grp (Ok.ite (fun f=>by simp at f;omega) fun _=>?_)
 rcases hx.ok with h|h|h|⟨h,h1,h2,h3,h4⟩
 rotate_left 3
 ·rcases h4 with ⟨h9,h4⟩|⟨h9,h4⟩
  ·rw [if_neg (by omega),if_neg (by omega),if_pos h9] at htx
   obtain ⟨k,hk⟩:=List.length_eq_one_iff.1 h4
   have hx2:x=GTerm.mk 9 [] 0 0 [k]:=by
    cases x
    dsimp only at h9 h1 h2 h3 hk
    subst h9 h1 h2 h3 hk
    rfl
   rw [hk] at htx
   have e:x.txt++q=[110,111,116,32,40]++(k.txt++41::q):=by rw [htx];simp
   rw [e] at hl ⊢
   rw [rtake_yes (q:=k.txt++41::q) rfl,Option.bind_some]
   refine Ok.ite (fun _=>Ok.chk (in64_s (by omega) (by omega)) ?_) fun f=>by cases f
   dsimp only
   rw [ihk k (by rw [hk];simp) _ (.inr ⟨41,q,rfl,.inl rfl⟩) (by rw [List.length_append] at hl;omega),Option.bind_some,rneed_yes (q:=q) rfl]
   exact Ok.ret (by rw [hx2])
  ·have ho:x.Op=10∨x.Op=11:=by omega
   rw [if_neg (by omega),if_neg (by omega),if_neg (by omega),if_pos ho] at htx
   rcases hkk:x.Kids with _|⟨k,l⟩
   ·rw [hkk] at h4;simp at h4
   have hx2:x=GTerm.mk x.Op [] 0 0 (k::l):=by
    cases x
    dsimp only at h1 h2 h3 hkk
    subst h1 h2 h3 hkk
    rfl
   have hmem:∀a∈k::l,a∈x.Kids:=fun a ha=>by rw [hkk];exact ha
   rw [hkk,List.map_cons,Lib.join_cons] at htx
   have e:x.txt++q=40::(k.txt++(Lib.joinTail (sepT x.Op) (l.map GTerm.txt)++41::q)):=by rw [htx];simp [sepT]
   rw [e] at hl ⊢
   simp only [List.length_cons,List.length_append] at hl
   rw [head_no (by decide),Option.bind_some]
   refine Ok.ite (fun f=>by cases f) fun _=>?_
   dsimp only
   rw [rtake_yes (q:=k.txt++(Lib.joinTail (sepT x.Op) (l.map GTerm.txt)++41::q)) rfl,Option.bind_some]
   refine Ok.ite (fun _=>Ok.chk (in64_s (by omega) (by omega)) ?_) fun f=>by cases f
   dsimp only
   rw [ihk k (hmem k (by simp)) _ (.inr (tail_head x.Op l q)) (by simp only [List.length_append,List.length_cons];omega),Option.bind_some]
   dsimp only
   refine Ok.jn (P:=fun j=>j=x.Op) ?_ fun j hj=>?_
   ·rw [pre_eq,Option.bind_some]
    have hll:1≤l.length:=by rw [hkk] at h4;simp at h4;omega
    rcases l with _|⟨b,l⟩
    ·simp at hll
    have e2:Lib.joinTail (sepT x.Op) ((b::l).map GTerm.txt)++41::q=sepT x.Op++(b.txt++(Lib.joinTail (sepT x.Op) (l.map GTerm.txt)++41::q)):=by simp [Lib.joinTail]
    rw [e2]
    rcases ho with ho|ho
    ·rw [ho]
     refine Ok.ite (fun f=>?_) fun _=>Ok.ret rfl
     have f:=of_decide_eq_true f
     exact absurd f (by
      have:sepT 10=[32,97,110,100,32]:=rfl
      rw [this];simp)
    ·rw [ho]
     refine Ok.ite (fun _=>Ok.ret rfl) fun f=>?_
     have f:=of_decide_eq_false f
     exact absurd rfl f
   ·subst hj
    show Ok ((loop (clF m d) (x.Op,[k],Greader.mk (Lib.joinTail (sepT x.Op) (l.map GTerm.txt)++41::q) false)).bind _) _
    have hk1000:(k::l).length≤1000:=by rw [←hkk];omega
    rw [cl_loop ho hd (by omega) l [k] (fun a ha q' n1 n2=>ihk a (hmem a (by simp [ha])) q' n1 (by simp only [List.length_append,List.length_cons] at n2 ⊢;omega)) (by simp at hk1000 ⊢;omega),Option.bind_some]
    dsimp only
    rw [rneed_yes (q:=q) rfl]
    exact Ok.ret (by rw [hx2];rfl)
 all_goals
  have ho:1≤x.Op∧x.Op≤8:=by first|(have:=h.1;omega)|omega
  obtain ⟨b,t,hb,b1,b2⟩:=wd_head x.Op.toNat (by omega) (by omega)
  obtain ⟨T,hT⟩:∃T,x.txt++q=b::T:=by
   have hwd:wd x.Op=b::t:=hb
   have:∃R,x.txt=wd x.Op++R:=by
    rw [htx]
    split
    ·exact ⟨[32,34]++x.Text++[34],by simp⟩
    ·split
     ·exact ⟨[32]++Lib.decDigits x.Print.toNat,by simp⟩
     ·split
      ·omega
      ·split
       ·omega
       ·exact ⟨[32]++Lib.itoa x.Number,by simp⟩
   obtain ⟨R,hR⟩:=this
   exact ⟨t++R++q,by rw [hR,hwd];simp⟩
  rw [hT,head_no b1,Option.bind_some]
  refine Ok.ite (fun f=>by cases f) fun _=>?_
  dsimp only
  rw [head_no b2,Option.bind_some]
  refine Ok.ite (fun f=>by cases f) fun _=>?_
  dsimp only
  rw [←hT,simple_back hx hw ho hq hl]
  exact Ok.ret rfl
theorem cond_eq {x:GTerm} (hx:PV x) (hw:Wf x):F_0 (Greader.mk x.txt false) 1=some (x,Greader.mk [] false):=by
 have hl:=txt_len x hx.rgt hw
 have hc:=hx.cnt
 have hh:=hx.hgt
 refine lim_of ⟨x.hgt,fun m hm=>?_⟩
 have:=cond_back x m 1 [] hm hx.rgt hw (by omega) (by omega) (by omega) (.inl rfl) (by simp;omega)
 simpa using this
theorem wd_nl (o:Int):(10:UInt8)∉wd o:=by
 unfold wd
 rw [List.getD_eq_getElem?_getD]
 by_cases h:o.toNat<12
 ·have:∀i,i<12→(10:UInt8)∉(words12[i]?).getD default:=by decide
  exact this _ h
 ·rw [List.getElem?_eq_none (by show words12.length≤_;simp [words12];omega)]
  decide
theorem dig_nl (u:Nat):(10:UInt8)∉Lib.decDigits u:=fun h=>by have:=dig_bounds u _ h;simp at this
theorem txt_nl:∀x:GTerm,Rgt x→(10:UInt8)∉x.txt:=by
 refine GTerm.ind fun x ih hx=>?_
 have hk:∀k∈x.Kids,(10:UInt8)∉k.txt:=fun k hk=>ih k hk (hx.kid hk)
 have hwn:=wd_nl x.Op
 rw [txt_eq]
 rcases hx.kinds with ⟨h,h1⟩|⟨h,h1,h2⟩|h|⟨h,k,h1⟩|⟨h,h1⟩
 ·rw [if_pos h]
  have:(10:UInt8)∉x.Text:=fun hm=>by have:=(h1.1 _ hm).1;simp at this
  simp [hwn,this]
 ·rw [if_neg (by omega),if_neg (by omega),if_neg (by omega),if_neg (by omega)]
  obtain ⟨u,hu⟩:=Int.eq_ofNat_of_zero_le h1
  rw [hu,Lib.itoa_nonneg]
  simp [hwn,dig_nl]
 ·rw [if_neg (by omega),if_pos h]
  simp [hwn,dig_nl]
 ·rw [if_neg (by omega),if_neg (by omega),if_pos h,h1]
  have:=hk k (by rw [h1];simp)
  simp [this]
 ·rw [if_neg (by omega),if_neg (by omega),if_neg (by omega),if_pos h]
  rcases hkk:x.Kids with _|⟨k,l⟩
  ·simp [Lib.join_nil]
  ·rw [List.map_cons,Lib.join_cons]
   have h1:=hk k (by rw [hkk];simp)
   have h2:(10:UInt8)∉Lib.joinTail ([32]++wd x.Op++[32]) (l.map GTerm.txt):=by
    unfold Lib.joinTail
    rw [List.mem_flatten]
    rintro ⟨s,hs,hm⟩
    rw [List.map_map,List.mem_map] at hs
    obtain ⟨a,ha,rfl⟩:=hs
    have:=hk a (by rw [hkk];simp [ha])
    simp [hwn,this] at hm
   generalize Lib.joinTail ([32]++wd x.Op++[32]) (l.map GTerm.txt)=J at h2 ⊢
   simp [h1,h2]
end Go.Ab
namespace Go.Ab
open Go.Proofs
theorem linesL_app:∀(l r:Str),(∀c∈l,c≠10)→linesL (l++10::r)=(l++[10])::linesL r
 | [],r,_=>rfl
 | c::l,r,h=>by
  have hc:(c==10)=false:=by simpa using h c (by simp)
  have ih:=linesL_app l r fun c hc=>h c (by simp [hc])
  simp only [List.cons_append,linesL,hc,cond_false]
  rw [ih]
theorem trim_eq {l:Str} (h:l.length≤100000000):F_16 (l++[10]) [10]=some l:=by
 unfold F_16 F_1t F_1b
 have e1:decide ((([10]:Str).length:Int)≤((l++[10]).length:Int))=true:=by simp;omega
 have e2:((l++[10]).length:Int) - (([10]:Str).length:Int)=l.length:=by simp
 have c1:in64 (l.length:Int)=true:=in64_iff.2 ⟨by omega,by omega⟩
 have c2:inc (l.length:Int) ((l++[10]).length:Int) (l++[10]).length=true:=inc_iff.2 ⟨by omega,by simp;omega,by omega⟩
 have c3:inc 0 (l.length:Int) (l++[10]).length=true:=inc_iff.2 ⟨by omega,by omega,by simp;omega⟩
 have e3:((l.length:Int)).toNat=l.length:=by simp
 have e4:(l++[10]).drop l.length=[10]:=by simp
 have e5:(l++[10]).take l.length=l:=by simp
 rw [e1,e2]
 simp only [cond_true,chk,c1,c2,c3,e3,e4,e5,jn,Option.bind_some,decide_true]
theorem cutP_of {s p:Str} {b:Bool} {q:Str} (h:F_5 (Greader.mk s false) p=some (b,Greader.mk q false)):F_k s p=some (q,b):=by
 unfold F_5 at h
 dsimp only at h
 cases e:F_k s p with
 | none=>rw [e] at h;cases h
 | some y =>
  rw [e] at h
  simp only [Option.bind_some,Option.some.injEq,Prod.mk.injEq,Greader.mk.injEq] at h
  rw [←h.1,←h.2.1]
theorem cutP_yes {p q:Str}:F_k (p++q) p=some (q,true):=cutP_of (rtake_yes (r:=Greader.mk (p++q) false) rfl)
theorem cutP_no {s p:Str} (h:s.take p.length≠p):F_k s p=some (s,false):=cutP_of (rtake_no (r:=Greader.mk s false) h)
theorem name_ne {s:Str} (h:nameP s):∀c∈s,c≠58∧c≠10:=fun c hc=>by
 have:=h.1 c hc
 exact ⟨fun e=>by subst e;simp at this,fun e=>by subst e;simp at this⟩
theorem read_eq {r:GRule} (h1:nameP r.Name) (h2:PV r.When) (h3:r.Verdict=1∨r.Verdict=2) (hw:Wf r.When):F_14 r.line=some (r,true):=by
 have hv:=vw_len r.Verdict
 have hn:=h1.2.2
 have ht:=txt_len r.When h2.rgt hw
 have hc:=h2.cnt
 obtain ⟨nm,wh,vd⟩:=r
 dsimp only at h1 h2 h3 hw hv hn ht hc
 have hvw:∃z:Str,vw vd=58::z:=by unfold vw;split<;>exact ⟨_,rfl⟩
 obtain ⟨z,hz⟩:=hvw
 have hzl:z.length≤10:=by rw [hz] at hv;simp at hv;omega
 have e1:(GRule.mk nm wh vd).line=(nm++58::(z++wh.txt))++[10]:=by unfold GRule.line;dsimp only;rw [hz];simp
 refine Ok.eq ?_
 unfold F_14
 rw [e1,trim_eq (by simp;omega),Option.bind_some,cut_eq (fun c hc=>(name_ne h1 c hc).1) (by simp;omega),Option.bind_some]
 refine Ok.chk (strl_s (by simp;omega)) ?_
 have e2:([58]:Str)++(z++wh.txt)=vw vd++wh.txt:=by rw [hz];simp
 dsimp only
 rw [e2]
 rcases h3 with rfl|rfl
 ·have e3:vw 1=[58,32,114,101,97,108,32,105,102,32]:=rfl
  rw [e3,cutP_yes,Option.bind_some]
  refine Ok.jn (P:=fun j=>j=(true,wh.txt,GRule.mk nm (GTerm.mk 0 [] 0 0 []) 1)) (Ok.ite (fun f=>by cases f) fun _=>Ok.ret rfl) fun j hj=>?_
  subst hj
  dsimp only
  rw [cond_eq h2 hw,Option.bind_some]
  exact Ok.ite (fun _=>Ok.ite (fun _=>Ok.ret rfl) fun f=>by cases f) fun f=>by cases f
 ·have e3:vw 2=[58,32,102,97,108,115,101,32,105,102,32]:=rfl
  rw [e3,cutP_no (by simp),Option.bind_some]
  refine Ok.jn (P:=fun j=>j=(true,wh.txt,GRule.mk nm (GTerm.mk 0 [] 0 0 []) 2)) (Ok.ite (fun _=>Ok.chk (strl_s (by simp;omega)) ?_) fun f=>by cases f) fun j hj=>?_
  ·rw [cutP_yes,Option.bind_some];exact Ok.ret rfl
  ·subst hj
   dsimp only
   rw [cond_eq h2 hw,Option.bind_some]
   exact Ok.ite (fun _=>Ok.ite (fun _=>Ok.ret rfl) fun f=>by cases f) fun f=>by cases f
theorem rlines:∀l:List GRule,(∀r∈l,nameP r.Name∧Rgt r.When)→linesL (rtxt l)=l.map GRule.line
 | [],_=>rfl
 | r :: l,h=>by
  have ih:=rlines l fun k hk=>h k (by simp [hk])
  have hr:=h r (by simp)
  have e:rtxt (r::l)=(r.Name++vw r.Verdict++r.When.txt)++10::rtxt l:=by simp [rtxt,GRule.line]
  rw [e,linesL_app,ih]
  ·rfl
  ·intro c hc
   rcases List.mem_append.1 hc with hc|hc
   ·rcases List.mem_append.1 hc with hc|hc
    ·exact (name_ne hr.1 c hc).2
    ·intro e;subst e
     unfold vw at hc
     split at hc<;>simp at hc
   ·intro e;subst e
    exact txt_nl _ hr.2 hc
theorem rreads:∀(l:List GRule) (k:Int) (out:List GRule),(∀r∈l,nameP r.Name∧PV r.When∧(r.Verdict=1∨r.Verdict=2)∧Wf r.When)→out.length+l.length≤40→forL F_2e (l.map GRule.line) k out=some (.nx (out++l))
 | [],k,out,_,_=>by simp [forL]
 | r::l,k,out,h,hl=>by
  obtain ⟨h1,h2,h3,h4⟩:=h r (by simp)
  simp only [List.length_cons] at hl
  have hb:F_2e k r.line out=some (.nx (out++[r])):=by
   refine Ok.eq ?_
   unfold F_2e
   rw [read_eq h1 h2 h3 h4,Option.bind_some]
   refine Ok.grp (Ok.ite (fun c=>?_) fun c=>Ok.chk (room_s (by simp;omega)) (Ok.ret rfl))
   simp at c;omega
  simp only [List.map_cons,forL,hb,Option.bind_some]
  have:=rreads l (k+1) (out++[r]) (fun y hy=>h y (by simp [hy])) (by simp;omega)
  simpa [Fl.elim] using this
theorem Parse_eq {l:List GRule} (h:VR' l) (hw:∀r∈l,Wf r.When) (hl:(rtxt l).length≤65536):F_r (rtxt l)=some (l,0):=by
 refine Ok.eq ?_
 unfold F_r
 refine Ok.ite (fun c=>by have:=of_decide_eq_true c;omega) fun _=>?_
 rw [show linF (rtxt l)=some () from rfl,Option.bind_some]
 rw [rlines l fun r hr=>⟨(h.r r hr).1,(h.r r hr).2.1.rgt⟩,rreads l 0 [] (fun r hr=>⟨(h.r r hr).1,(h.r r hr).2.1,(h.r r hr).2.2,hw r hr⟩) (by have:=h.n;simp;omega),Option.bind_some]
 show Ok ((F_x ([]++l)).bind _) _
 rw [List.nil_append,valid_eq,verr_zero.2 h,Option.bind_some]
 refine Ok.ite (fun f=>by cases f) fun _=>?_
 rw [text_eq h hw,Option.bind_some]
 refine Ok.ite (fun f=>by simp at f) fun _=>Ok.ret rfl
end Go.Ab
namespace Go.Ab
open Go.Proofs
theorem term_ext {a b:GTerm}:a=b↔a.Op=b.Op∧a.Text=b.Text∧a.Number=b.Number∧a.Print=b.Print∧a.Kids=b.Kids:=by
 cases a;cases b;simp only [GTerm.mk.injEq]
theorem rule_ext {a b:GRule}:a=b↔a.Name=b.Name∧a.Verdict=b.Verdict∧a.When=b.When:=by
 cases a;cases b;simp only [GRule.mk.injEq]
 exact ⟨fun ⟨h1,h2,h3⟩=>⟨h1,h3,h2⟩,fun ⟨h1,h2,h3⟩=>⟨h1,h3,h2⟩⟩
theorem take_eq {α:Type} [Inhabited α] {l r:List α} {n:Nat} (h1:n<l.length) (h2:n<r.length) (h:l.take n=r.take n) (e:l.getD n default=r.getD n default):l.take (n+1)=r.take (n+1):=by
 obtain ⟨k,_,g1,t1⟩:=at_take h1
 obtain ⟨k',_,g2,t2⟩:=at_take h2
 rw [t1,t2,h,←g1,←g2,e]
open Classical in
theorem rsame_ok:∀(a:GTerm) (m:Nat) (b:GTerm),a.hgt≤m→Lens a→Ok (FR_i m a b) (·=decide (a=b)):=by
 refine GTerm.ind fun a ih m b hm ha=>?_
 obtain ⟨m,rfl⟩:∃n,m=n+1:=⟨m - 1,by have:=hgt_pos a;omega⟩
 have h2:=ha.kl
 rw [FR_i]
 refine Ok.grp (Ok.grp (Ok.grp (Ok.grp (Ok.ite (fun c=>Ok.ret ?_) fun c=>?_))))
 ·rw [eq_comm,decide_eq_false_iff_not]
  rintro rfl
  simp at c
 ·simp only [Bool.or_eq_false_iff,Bool.not_eq_false',decide_eq_true_eq] at c
  obtain ⟨⟨⟨⟨c1,c2⟩,c3⟩,c4⟩,c5⟩:=c
  refine Ok.bind (Ok.loop (Q:=fun r=>(r=.inl ()∧a.Kids=b.Kids)∨(r=.inr false∧a.Kids≠b.Kids)) (fun i:Int=>∃n:Nat,i=(n:Int)∧n≤a.Kids.length∧a.Kids.take n=b.Kids.take n) (fun i=>(a.Kids.length - i).toNat) (fun i hi=>?_) _ ⟨0,rfl,by omega,by simp⟩) fun r hr=>?_
  ·obtain ⟨n,rfl,g2,g3⟩:=hi
   have e0:(n:Int).toNat=n:=Int.toNat_natCast n
   rw [e0]
   refine Ok.ite (fun d=>?_) fun d=>?_
   ·have d:(n:Int)<a.Kids.length:=of_decide_eq_true d
    obtain ⟨k,hk,hg,_⟩:=at_take (l:=a.Kids) (n:=n) (by omega)
    rw [hg]
    refine Ok.chk (inb_iff.2 ⟨by omega,d⟩) (Ok.chk (inb_iff.2 ⟨by omega,by omega⟩) (Ok.bind (ih k hk m _ (by have:=kid_hgt hk;omega) (ha.kid hk)) fun y hy=>?_))
    subst hy
    refine Ok.ite (fun f=>Ok.ret (.inr ⟨rfl,fun e=>?_⟩)) fun f=>Ok.chk (in64_iff.2 ⟨by omega,by omega⟩) (Ok.ret ⟨⟨n+1,rfl,by omega,?_⟩,by omega⟩)
    ·have f:¬k=b.Kids.getD n default:=by simpa using f
     exact f (by rw [←e,hg])
    ·have f:k=b.Kids.getD n default:=by simpa using f
     exact take_eq (by omega) (by omega) g3 (by rw [hg,f])
   ·have d:¬(n:Int)<a.Kids.length:=of_decide_eq_false d
    have e:n=a.Kids.length:=by omega
    subst e
    rw [List.take_length,show a.Kids.length=b.Kids.length by omega,List.take_length] at g3
    exact Ok.ret (.inl ⟨rfl,g3⟩)
  ·rcases hr with ⟨rfl,h'⟩|⟨rfl,h'⟩
   ·rw [Sum_inl]
    refine Ok.ret ?_
    rw [eq_comm,decide_eq_true_eq]
    exact term_ext.2 ⟨c1,c2,c3,c4,h'⟩
   ·rw [Sum_inr]
    refine Ok.ret ?_
    rw [eq_comm,decide_eq_false_iff_not]
    exact fun e=>h' (by rw [e])
open Classical in
theorem rsame_eq (a b:GTerm) (ha:Lens a):F_i a b=some (decide (a=b)):=lim_of ⟨a.hgt,fun m hm=>(rsame_ok a m b hm ha).eq⟩
open Classical in
theorem rSame_eq (a b:List GRule) (hl:a.length≤9223372036854775807) (ha:∀r∈a,Lens r.When):F_20 a b=some (decide (a=b)):=by
 refine Ok.eq ?_
 unfold F_20
 refine Ok.ite (fun c=>Ok.ret ?_) fun c=>?_
 ·rw [eq_comm,decide_eq_false_iff_not]
  rintro rfl
  simp at c
 ·simp only [Bool.not_eq_false',decide_eq_true_eq] at c
  refine Ok.bind (Ok.loop (Q:=fun r=>(r=.inl ()∧a=b)∨(r=.inr false∧a≠b)) (fun i:Int=>∃n:Nat,i=(n:Int)∧n≤a.length∧a.take n=b.take n) (fun i=>(a.length - i).toNat) (fun i hi=>?_) _ ⟨0,rfl,by omega,by simp⟩) fun r hr=>?_
  ·obtain ⟨n,rfl,g2,g3⟩:=hi
   have e0:(n:Int).toNat=n:=Int.toNat_natCast n
   unfold F_2o
   rw [e0]
   refine Ok.ite (fun d=>?_) fun d=>?_
   ·have d:(n:Int)<a.length:=of_decide_eq_true d
    obtain ⟨k,hk,hg,_⟩:=at_take (l:=a) (n:=n) (by omega)
    rw [hg]
    have i1:inb (n:Int) a.length=true:=inb_iff.2 ⟨by omega,d⟩
    have i2:inb (n:Int) b.length=true:=inb_iff.2 ⟨by omega,by omega⟩
    refine Ok.chk i1 (Ok.chk i2 (Ok.ite (fun f=>Ok.ret (.inr ⟨rfl,fun e=>?_⟩)) fun f=>Ok.chk i1 (Ok.chk i2 (Ok.ite (fun f2=>Ok.ret (.inr ⟨rfl,fun e=>?_⟩)) fun f2=>Ok.chk i1 (Ok.chk i2 ?_)))))
    ·rw [←e,hg] at f;simp at f
    ·rw [←e,hg] at f2;simp at f2
    ·simp only [Bool.not_eq_false',decide_eq_true_eq] at f f2
     rw [rsame_eq _ _ (ha k hk),Option.bind_some]
     refine Ok.ite (fun f3=>Ok.ret (.inr ⟨rfl,fun e=>?_⟩)) fun f3=>Ok.chk (in64_iff.2 ⟨by omega,by omega⟩) (Ok.ret ⟨⟨n+1,rfl,by omega,?_⟩,by omega⟩)
     ·rw [←e,hg] at f3;simp at f3
     ·have f3:k.When=(b.getD n default).When:=by simpa using f3
      exact take_eq (by omega) (by omega) g3 (by rw [hg];exact rule_ext.2 ⟨f,f2,f3⟩)
   ·have d:¬(n:Int)<a.length:=of_decide_eq_false d
    have e:n=a.length:=by omega
    subst e
    rw [List.take_length,show a.length=b.length by omega,List.take_length] at g3
    exact Ok.ret (.inl ⟨rfl,g3⟩)
  ·rcases hr with ⟨rfl,h'⟩|⟨rfl,h'⟩
   ·rw [Sum_inl]
    exact Ok.ret (by rw [eq_comm,decide_eq_true_eq];exact h')
   ·rw [Sum_inr]
    exact Ok.ret (by rw [eq_comm,decide_eq_false_iff_not];exact h')
end Go.Ab
namespace Go.Ab
open Go.Proofs
theorem u8d:∀k:Nat,k<10→u8 (48+((u8 (k:Int)).toNat:Int))=UInt8.ofNat (48+k):=by decide
theorem num_dec (u:Nat):∀m,u<m→u<18446744073709551616→FR_4 m (u:Int)=some (Lib.decDigits u):=by
 induction u using Nat.strongRecOn with
 | _ u ih =>
  intro m hm hu
  obtain ⟨m,rfl⟩:∃n,m=n+1:=⟨m - 1,by omega⟩
  rw [FR_4,Lib.decDigits]
  by_cases c:u<10
  ·rw [dif_pos c,decide_eq_true (by omega),u8d u c];rfl
  ·have e1:(u:Int) / 10=((u / 10:Nat):Int):=by omega
   have e2:(u:Int) % 10=((u % 10:Nat):Int):=by omega
   have hd:divs (u:Int) 10=true:=divs_iff.2 ⟨by omega,by omega⟩
   have hl:=dec_len (u:=u / 10) (by omega)
   rw [dif_neg c,decide_eq_false (by omega),e1,e2,u8d (u % 10) (by omega)]
   refine Ok.eq (Ok.ite (fun f=>by cases f) fun _=>Ok.chk hd ?_)
   rw [ih (u / 10) (by omega) m (by omega) (by omega),Option.bind_some]
   exact Ok.chk hd (Ok.chk (strl_s (by simp;omega)) (Ok.ret rfl))
theorem decim_dec (u:Nat):∀m,u<m→u<18446744073709551616→FR_h m (u:Int)=some (Lib.decDigits u):=by
 induction u using Nat.strongRecOn with
 | _ u ih =>
  intro m hm hu
  obtain ⟨m,rfl⟩:∃n,m=n+1:=⟨m - 1,by omega⟩
  rw [FR_h,Lib.decDigits]
  by_cases c:u<10
  ·rw [dif_pos c,decide_eq_true (by omega),u8d u c];rfl
  ·have e1:(u:Int) / 10=((u / 10:Nat):Int):=by omega
   have e2:(u:Int) % 10=((u % 10:Nat):Int):=by omega
   have hd:divs (u:Int) 10=true:=divs_iff.2 ⟨by omega,by omega⟩
   have hl:=dec_len (u:=u / 10) (by omega)
   rw [dif_neg c,decide_eq_false (by omega),e1,e2,u8d (u % 10) (by omega)]
   refine Ok.eq (Ok.ite (fun f=>by cases f) fun _=>Ok.chk hd ?_)
   rw [ih (u / 10) (by omega) m (by omega) (by omega),Option.bind_some]
   exact Ok.chk hd (Ok.chk (strl_s (by simp;omega)) (Ok.ret rfl))
theorem num_eq {n:Int} (h0:0≤n) (h1:n<18446744073709551616):F_4 n=some (Lib.itoa n):=by
 obtain ⟨u,rfl⟩:=Int.eq_ofNat_of_zero_le h0
 rw [Lib.itoa_nonneg]
 exact lim_of ⟨u+1,fun m hm=>num_dec u m (by omega) (by omega)⟩
theorem decim_eq {n:Int} (h0:0≤n) (h1:n<18446744073709551616):F_h n=some (Lib.decDigits n.toNat):=by
 obtain ⟨u,rfl⟩:=Int.eq_ofNat_of_zero_le h0
 exact lim_of ⟨u+1,fun m hm=>decim_dec u m (by omega) (by omega)⟩
theorem jtail_snoc (sep a:Str) (l:List Str):Lib.joinTail sep (l++[a])=Lib.joinTail sep l++(sep++a):=by
 simp [Lib.joinTail]
theorem join_snoc {sep a:Str} {l:List Str} (h:l≠[]):Lib.join (l++[a]) sep=Lib.join l sep++sep++a:=by
 cases l with
 | nil=>exact absurd rfl h
 | cons b r=>rw [List.cons_append,Lib.join_cons,Lib.join_cons,jtail_snoc];simp
theorem cnts_take:∀(l:List GTerm) (n:Nat),GTerm.cnts (l.take n)≤GTerm.cnts l
 | [],n=>by simp
 | a::r,0=>by
  have:=cnt_pos a;have:=cnts_len r
  simp only [List.take_zero,GTerm.cnts];omega
 | a::r,n+1=>by
  have:=cnts_take r n
  simp only [List.take_succ_cons,GTerm.cnts];omega
theorem rwrite_ok:∀(x:GTerm) (m:Nat),x.hgt≤m→Rgt x→Wf x→x.cnt≤1000→Ok (FR_c m x) (·=x.txt):=by
 refine GTerm.ind fun x ih m hm hx hw hc=>?_
 obtain ⟨m,rfl⟩:∃n,m=n+1:=⟨m - 1,by have:=hgt_pos x;omega⟩
 have ihk:∀k∈x.Kids,Ok (FR_c m k) (·=k.txt):=fun k hk=>ih k hk m (by have:=kid_hgt hk;omega) (hx.kid hk) (hw.kid hk) (by have:=kid_cnt hk;omega)
 have hkl:∀k∈x.Kids,(k.txt.length:Int)≤60*k.cnt - 10:=fun k hk=>txt_len k (hx.kid hk) (hw.kid hk)
 have htl:=txt_len x hx hw
 have hwl:=wd_len x.Op
 have hcl:=kids_cnt x
 have hcq:=cnt_eq x
 have ho:0≤x.Op∧x.Op≤11:=by rcases hx.kinds with ⟨h,_⟩|⟨h,_⟩|h|⟨h,_⟩|⟨h,_⟩<;>omega
 have htx:=txt_eq x
 have hwd:words12.getD x.Op.toNat default=wd x.Op:=rfl
 rw [FR_c,show F_17=some words12 from rfl,Option.bind_some]
 simp only [hwd]
 refine Ok.chk (inb_iff.2 ⟨ho.1,by show x.Op<12;omega⟩) ?_
 refine Ok.jn (P:=fun b=>b=decide (x.Op=1∨x.Op=2∨x.Op=3)) (Ok.ite (fun c=>Ok.ret (by simpa using .inl (of_decide_eq_true c))) fun c=>Ok.ite (fun c2=>Ok.ret (by simpa using .inr (.inl (of_decide_eq_true c2)))) fun c2=>Ok.ret (by simp at c c2;simp [c,c2])) fun b hb=>?_
 subst hb
 refine Ok.ite (fun c=>?_) fun c=>?_
 ·have c:=of_decide_eq_true c
  rw [if_pos c] at htx
  have hq:qP x.Text:=by rcases hx.kinds with h|h|h|h|h<;>first|exact h.2|omega
  have:=hq.2.2
  rw [htx]
  refine Ok.chk (strl_s (by simp;omega)) (Ok.chk (strl_s (by simp;omega)) (Ok.chk (strl_s (by simp;omega)) (Ok.ret rfl)))
 ·have c := of_decide_eq_false c
  rw [if_neg c] at htx
  refine Ok.jn (P:=fun b=>b=decide (x.Op=4∨x.Op=5∨x.Op=6∨x.Op=8)) (Ok.ite (fun c=>Ok.ret (decide_eq_true (by have:=of_decide_eq_true c;omega)).symm) fun c4=>Ok.ite (fun c=>Ok.ret (decide_eq_true (by have:=of_decide_eq_true c;omega)).symm) fun c5=>Ok.ite (fun c=>Ok.ret (decide_eq_true (by have:=of_decide_eq_true c;omega)).symm) fun c6=>Ok.ret (by
   have c4:=of_decide_eq_false c4;have c5:=of_decide_eq_false c5;have c6:=of_decide_eq_false c6
   exact decide_eq_decide.2 ⟨fun h=>by omega,fun h=>by omega⟩)) fun b hb=>?_
  subst hb
  refine Ok.ite (fun c4=>?_) fun c4=>?_
  ·have c4:=of_decide_eq_true c4
   rw [if_neg (by omega),if_neg (by omega),if_neg (by omega)] at htx
   have hn:0≤x.Number∧x.Number≤1099511627776:=by rcases hx.kinds with ⟨h,_⟩|⟨h,h1⟩|h|⟨h,h1⟩|⟨h,_⟩<;>first|exact h1|omega
   have hil:=ita_len hn.1 hn.2
   rw [num_eq hn.1 (by omega),htx]
   refine Ok.chk (strl_s (by simp;omega)) ?_
   rw [Option.bind_some]
   exact Ok.chk (strl_s (by simp;omega)) (Ok.ret rfl)
  ·have c4:=of_decide_eq_false c4
   refine Ok.ite (fun c7=>?_) fun c7=>?_
   ·have c7:=of_decide_eq_true c7
    rw [if_pos c7] at htx
    have hp0:=hw.p0;have hp1:=hw.p1
    have hd:=dec_len (u:=x.Print.toNat) (by omega)
    rw [decim_eq hp0 hp1,htx]
    refine Ok.chk (strl_s (by simp;omega)) ?_
    rw [Option.bind_some]
    exact Ok.chk (strl_s (by simp;omega)) (Ok.ret rfl)
   ·have c7:=of_decide_eq_false c7
    rw [if_neg c7] at htx
    refine Ok.ite (fun c9=>?_) fun c9=>?_
    ·have c9:=of_decide_eq_true c9
     rw [if_pos c9] at htx
     obtain ⟨k,hk⟩:∃k,x.Kids=[k]:=by rcases hx.kinds with ⟨h,_⟩|⟨h,_⟩|h|⟨h,h1⟩|⟨h,_⟩<;>first|exact h1|omega
     have hm:k∈x.Kids:=by rw [hk];simp
     have hg:x.Kids.getD 0 default=k:=by rw [hk];rfl
     have:=hkl k hm
     have:=kid_cnt hm
     have e9:wd x.Op=[110,111,116]:=by rw [c9];rfl
     rw [hg,htx,hk,e9]
     refine Ok.chk (strl_s (by simp)) (Ok.chk (inb_iff.2 ⟨by omega,by simp⟩) (Ok.bind (ihk k hm) fun y hy=>?_))
     subst hy
     exact Ok.chk (strl_s (by simp;omega)) (Ok.chk (strl_s (by simp;omega)) (Ok.ret rfl))
    ·have c9:=of_decide_eq_false c9
     rw [if_neg c9] at htx
     have c3:x.Op=10∨x.Op=11:=by rcases hx.kinds with ⟨h,_⟩|⟨h,_⟩|h|⟨h,_⟩|⟨h,_⟩<;>omega
     rw [if_pos c3] at htx
     have hjl:=join_len (sep_len x.Op) hkl
     refine Ok.bind (Ok.loop (Q:=fun r=>r=[40]++Lib.join (x.Kids.map GTerm.txt) ([32]++wd x.Op++[32])) (fun s:Str×Int=>∃n:Nat,s.2=(n:Int)∧n≤x.Kids.length∧s.1=[40]++Lib.join ((x.Kids.take n).map GTerm.txt) ([32]++wd x.Op++[32])) (fun s=>(x.Kids.length - s.2).toNat) (fun s hs=>?_) _ ⟨0,rfl,by omega,by simp [Lib.join_nil]⟩) fun r hr=>?_
     ·obtain ⟨s,i⟩:=s
      obtain ⟨n,h1,h2,h3⟩:=hs
      dsimp only at h1 h2 h3
      subst h1 h3
      refine Ok.ite (fun d=>?_) fun d=>?_
      ·have d:(n:Int)<x.Kids.length:=of_decide_eq_true d
       obtain ⟨k,hk,hg,ht⟩:=at_take (l:=x.Kids) (n:=n) (by omega)
       have hpl:=join_len (sep_len x.Op) (l:=x.Kids.take n) fun k hk=>hkl k (List.mem_of_mem_take hk)
       have hpc:=cnts_take x.Kids n
       have hkk:=hkl k hk
       have hkc:=kid_cnt hk
       dsimp only at hpl ⊢
       rw [Int.toNat_natCast,hg]
       refine Ok.jn (P:=fun j=>j.length≤61000∧j++k.txt=[40]++Lib.join ((x.Kids.take (n+1)).map GTerm.txt) ([32]++wd x.Op++[32])) (Ok.ite (fun f=>?_) fun f=>Ok.ret ?_) fun j hj=>?_
       ·have f:(0:Int)<n:=of_decide_eq_true f
        refine Ok.chk (strl_s (by simp;omega)) (Ok.chk (strl_s (by simp;omega)) (Ok.chk (strl_s (by
         simp only [List.length_append,List.length_cons,List.length_nil] at hpl ⊢;omega)) (Ok.ret ⟨by
         simp only [List.length_append,List.length_cons,List.length_nil] at hpl ⊢;omega,?_⟩)))
        rw [ht,List.map_append,List.map_singleton,join_snoc (by
         intro e
         have:=congrArg List.length e
         rw [List.length_map,List.length_take,List.length_nil] at this;omega)]
        simp
       ·have f:¬(0:Int)<n:=of_decide_eq_false f
        obtain rfl:n=0:=by omega
        rw [ht]
        exact ⟨by simp [Lib.join_nil],by simp [Lib.join_nil,Lib.join_cons,Lib.joinTail]⟩
       ·refine Ok.chk (inb_iff.2 ⟨by omega,d⟩) (Ok.bind (ihk k hk) fun y hy=>?_)
        subst hy
        obtain ⟨j1,j2⟩:=hj
        exact Ok.chk (strl_s (by omega)) (Ok.chk (in64_s (by omega) (by omega)) (Ok.ret ⟨⟨n+1,by dsimp only;omega,by omega,j2⟩,by dsimp only;omega⟩))
      ·have d:¬(n:Int)<x.Kids.length:=of_decide_eq_false d
       obtain rfl:n=x.Kids.length:=by omega
       rw [List.take_length]
       exact Ok.ret rfl
     ·subst hr
      rw [htx]
      exact Ok.chk (strl_s (by simp only [List.length_append,List.length_cons,List.length_nil] at hjl ⊢;omega)) (Ok.ret rfl)
theorem rwrite_eq {x:GTerm} (hx:Rgt x) (hw:Wf x) (hc:x.cnt≤1000):F_c x=some x.txt:=lim_of ⟨x.hgt,fun m hm=>(rwrite_ok x m hm hx hw hc).eq⟩
theorem rText_eq {l:List GRule} (hl:∀r∈l,LensR r) (h:VR' l) (hw:∀r∈l,Wf r.When):F_10 l=some (rtxt l,0):=by
 have hll:∀r∈l,r.line.length≤3700:=fun r hr=>line_len (h.r r hr).1 (h.r r hr).2.1 (hw r hr)
 have hn:=h.n
 refine Ok.eq ?_
 unfold F_10
 rw [rvalid_eq hl,verr_zero.2 h,Option.bind_some]
 refine Ok.ite (fun f=>by cases f) fun _=>?_
 refine Ok.bind (Ok.loop (Q:=fun r=>r=rtxt l) (fun s:Str×Int=>∃n:Nat,s.2=(n:Int)∧n≤l.length∧s.1=rtxt (l.take n)) (fun s=>(l.length - s.2).toNat) (fun s hs=>?_) _ ⟨0,rfl,by omega,by simp [rtxt]⟩) fun r hr=>by subst hr;exact Ok.ret rfl
 obtain ⟨s,i⟩:=s
 obtain ⟨n,h1,h2,h3⟩:=hs
 dsimp only at h1 h2 h3
 subst h1 h3
 unfold F_2n
 refine Ok.ite (fun d=>?_) fun d=>?_
 ·have d:(n:Int)<l.length:=of_decide_eq_true d
  obtain ⟨r,hr,hg,ht⟩:=at_take (l:=l) (n:=n) (by omega)
  have hpl:=rtxt_len (l:=l.take n) fun k hk=>hll k (List.mem_of_mem_take hk)
  have hi:inb (n:Int) l.length=true:=inb_iff.2 ⟨by omega,d⟩
  have h1:=(h.r r hr).1.2.2
  have h2:=(h.r r hr).2.1
  have h3:=txt_len r.When h2.rgt (hw r hr)
  have h4:=h2.cnt
  have h6:=hll r hr
  have hle:(l.take n).length≤40:=by rw [List.length_take];omega
  have hst:rtxt (l.take (n+1))=rtxt (l.take n)++r.line:=by rw [ht];simp [rtxt]
  dsimp only
  rw [Int.toNat_natCast,hg,rwrite_eq h2.rgt (hw r hr) (by omega)]
  refine Ok.jn (P:=fun j=>j.length≤5∧[58,32]++j++[32,105,102,32]=vw r.Verdict) (Ok.chk hi (Ok.ite (fun c=>Ok.ret ⟨by decide,by unfold vw;rw [if_pos (of_decide_eq_true c)];rfl⟩) fun c=>Ok.ret ⟨by decide,by unfold vw;rw [if_neg (of_decide_eq_false c)];rfl⟩)) fun j hj=>?_
  obtain ⟨j1,j2⟩:=hj
  have e:r.line=((((r.Name++[58,32])++j)++[32,105,102,32])++r.When.txt)++[10]:=by
   unfold GRule.line;rw [←j2];simp
  refine Ok.chk hi (Ok.chk (strl_s (by simp;omega)) (Ok.chk (strl_s (by simp;omega)) (Ok.chk (strl_s (by simp;omega)) (Ok.chk hi ?_))))
  rw [Option.bind_some,←e]
  refine Ok.chk (strl_s (by simp;omega)) (Ok.chk (strl_s (by simp;omega)) (Ok.chk (strl_s (by omega)) (Ok.chk (in64_s (by omega) (by omega)) (Ok.ret ⟨⟨n+1,by dsimp only;omega,by omega,hst.symm⟩,by dsimp only;omega⟩))))
 ·have d:¬(n:Int)<l.length:=of_decide_eq_false d
  obtain rfl:n=l.length:=by omega
  rw [List.take_length]
  exact Ok.ret rfl
end Go.Ab
namespace Go.Ab
open Go.Proofs
def nm (n:Int):Str:=([114]:Str)++[u8 (48+((u8 n).toNat:Int))]
instance (s:Str):Decidable (nameP s):=inferInstanceAs (Decidable (_∧_))
theorem nm_ok:∀n:Nat,n<6→nameP (nm n):=by
 intro n hn
 have:n=0∨n=1∨n=2∨n=3∨n=4∨n=5:=by omega
 rcases this with rfl|rfl|rfl|rfl|rfl|rfl<;>decide
theorem nm_inj:∀n:Nat,n<6→∀m:Nat,m<6→nm n=nm m→n=m:=by decide
structure okR (l:List GRule):Prop where
 r:∀r∈l,PV r.When∧Wf r.When∧(r.Verdict=1∨r.Verdict=2)∧∃k:Nat,k<l.length∧r.Name=nm k
 u:uniq l
theorem okR.vr {l:List GRule} (h:okR l) (hl:l.length≤6):VR' l:=by
 refine ⟨by omega,fun r hr=>?_,h.u⟩
 obtain ⟨h1,_,h3,k,hk,e⟩:=h.r r hr
 exact ⟨by rw [e];exact nm_ok k (by omega),h1,h3⟩
theorem okR.snoc {l:List GRule} {x:GRule} (h:okR l) (hl:l.length<6) (h1:PV x.When) (h2:Wf x.When) (h3:x.Verdict=1∨x.Verdict=2) (h4:x.Name=nm l.length):okR (l++[x]):=by
 refine ⟨fun r hr=>?_,uniq_snoc.2 ⟨h.u,fun o ho=>?_⟩⟩
 ·rcases List.mem_append.1 hr with hr|hr
  ·obtain ⟨g1,g2,g3,k,hk,e⟩:=h.r r hr
   exact ⟨g1,g2,g3,k,by simp;omega,e⟩
  ·cases List.mem_singleton.1 hr
   exact ⟨h1,h2,h3,l.length,by simp,h4⟩
 ·obtain ⟨_,_,_,k,hk,e⟩:=h.r o ho
  intro e2
  rw [e,h4] at e2
  have:=nm_inj k (by omega) l.length (by omega) e2
  omega
theorem rules_made {t:GTape} (ht:TO t) {n:Int} (h0:0≤n) (hn:n≤6):Ok (F_1v t n) fun y=>okR y.1∧(y.1.length:Int)=n∧TO y.2:=by
 unfold F_1v
 refine Ok.bind (Ok.loop (Q:=fun r:List GRule×GTape=>okR r.1∧(r.1.length:Int)=n∧TO r.2) (fun x:Int×List GRule×GTape=>x.1=x.2.1.length∧x.1≤n∧okR x.2.1∧TO x.2.2) (fun x=>(n - x.1).toNat) (fun x hx=>?_) _ ⟨by simp,h0,⟨by simp,by simp [uniq]⟩,ht⟩) fun r hr=>Ok.ret hr
 obtain ⟨i,l,t⟩:=x
 obtain ⟨h1,h2,h3,h4⟩:=hx
 dsimp only at h1 h2 h3 h4
 subst h1
 unfold F_2k
 refine Ok.ite (fun c=>?_) fun c=>?_
 ·have c:(l.length:Int)<n:=of_decide_eq_true c
  dsimp only
  rw [num_small (by omega) (by omega),Option.bind_some]
  refine Ok.chk (strl_s (by simp)) (Ok.bind (made_termW 2 (by omega) h4) fun y hy=>Ok.bind (btw_ok hy.2.2.2.2 (by omega) (by omega) (by omega)) fun z hz=>Ok.chk (room_s (by simp;omega)) (Ok.chk (in64_s (by omega) (by omega)) (Ok.ret ⟨⟨by dsimp only;simp,by dsimp only;omega,?_,hz.2.2⟩,by dsimp only;omega⟩)))
  have:=hy.2.2.1;have:=hy.2.2.2.1;have:=hz.1;have:=hz.2.1
  exact h3.snoc (by omega) ⟨by dsimp only;omega,by dsimp only;omega,hy.1⟩ hy.2.1 (by dsimp only;omega) rfl
 ·have c:¬(l.length:Int)<n:=of_decide_eq_false c
  exact Ok.ret ⟨h3,by dsimp only;omega,h4⟩
theorem acall_fact2 {P:Program} {f:FuncId} {ys:List V} {H:Heap} {Q:V→Heap→Prop} (hc:callable P f=true) (h:(∀y∈ys,y.fact)→ACall P f ys H Q):ACall P f ys H Q :=
 ⟨hc,fun g w vals hH hs hr=>(h fun y hy=>by
  obtain ⟨i,hi⟩:=List.getElem?_of_mem hy
  exact (hr i y hi).fact).2 g w vals hH hs hr⟩
end Go.Ab
namespace Go.Ab
open Go.Proofs
theorem take_ok (r:Greader) (s:Str):Ok (F_5 r s) fun y=>y.2.wrong_=r.wrong_∧y.2.text_.length≤r.text_.length∧(y.1=true→r.text_=s++y.2.text_):=by
 by_cases c:r.text_.take s.length=s
 ·have e:r.text_=s++r.text_.drop s.length:=by
   conv=>lhs;rw [←List.take_append_drop s.length r.text_,c]
  rw [rtake_yes e]
  exact Ok.ret ⟨rfl,by simp,fun _=>e⟩
 ·rw [rtake_no c]
  exact Ok.ret ⟨rfl,Nat.le_refl _,fun f=>by cases f⟩
theorem need_ok (r:Greader) (s:Str):Ok (F_q r s) fun y=>y.text_.length≤r.text_.length:=by
 unfold F_q
 refine Ok.bind (take_ok r s) fun y hy=>Ok.ite (fun _=>Ok.ret hy.2.1) fun _=>Ok.ret hy.2.1
theorem digits_ok {r:Greader} (hl:r.text_.length≤70000):Ok (F_w r) fun y=>y.1.length≤70000∧y.2.text_.length≤r.text_.length:=by
 have hd:=dropWhile_le (digs.contains ·) r.text_
 have ht:trimLI r.text_ [48,49,50,51,52,53,54,55,56,57]=some (r.text_.dropWhile (digs.contains ·)):=Ok.eq (Ok.chk (by decide) (Ok.ret rfl))
 unfold F_w
 rw [ht,Option.bind_some]
 refine Ok.chk (in64_s (by omega) (by omega)) (Ok.chk (inc_iff.2 ⟨by omega,by omega,by omega⟩) (Ok.ret ⟨by dsimp only;rw [List.length_take];omega,by dsimp only;omega⟩))
theorem cut_ok {s:Str} (c:UInt8) (hl:s.length≤70000):Ok (F_v s [c]) fun y=>y.2.1.length≤s.length:=by
 unfold F_v F_1m
 have hb:=indexByte_ge c s
 rw [show ix1 s [c]=some (Lib.indexByte s c) from rfl,Option.bind_some]
 refine Ok.bind (Ok.ite (fun d=>?_) fun _=>Ok.ret (by simp)) fun y hy=>Ok.ret hy
 have d:=of_decide_eq_true d
 refine Ok.chk (inc_iff.2 ⟨by omega,by omega,by omega⟩) (Ok.chk (in64_s (by simp;omega) (by simp;omega)) (Ok.chk (inc_iff.2 ⟨by simp;omega,by simp;omega,by omega⟩) (Ok.ret (by dsimp only;rw [List.length_drop];omega))))
theorem puE_ok {s:Str} (hl:s.length≤70000):Ok (puE s 10 64) fun y=>0≤y.1∧y.1<18446744073709551616:=by
 unfold puE
 refine Ok.chk (by simp;omega) (Ok.ret ?_)
 cases h:Lib.parseUintB 64 s with
 | ok u =>
  have:=Lib.parseUintB_le h
  exact ⟨by dsimp only;omega,by dsimp only;omega⟩
 | _=>exact ⟨by simp,by simp⟩
theorem atoiE_ok {s:Str} (hl:s.length≤70000):Ok (atoiE s) fun _=>True:=Ok.chk (decide_eq_true (by omega)) (Ok.ret trivial)
def gv (n:Nat) (y:GTerm×Greader):Prop:=Wf y.1∧y.2.text_.length≤n
theorem wf0 {o:Int} {s:Str} {n p:Int} (h0:0≤p) (h1:p<18446744073709551616):Wf (GTerm.mk o s n p []):=.mk _ h0 h1 (by simp)
theorem wfk {o:Int} {s:Str} {l:List GTerm} (h:∀k∈l,Wf k):Wf (GTerm.mk o s 0 0 l):=.mk _ (by show (0:Int)≤0;omega) (by show (0:Int)<_;omega) h
theorem simple_ok {r:Greader} (hl:r.text_.length≤70000):Ok (F_13 r) (gv r.text_.length):=by
 unfold F_13
 refine Ok.bind (Ok.loop (Q:=fun o:Sum Greader (GTerm×Greader)=>Sum.elim (fun u=>u.text_.length≤r.text_.length) (gv r.text_.length) o) (fun s:Int×Greader=>1≤s.1∧s.2.text_.length≤r.text_.length) (fun s=>(9 - s.1).toNat) (fun s hs=>?_) _ ⟨by omega,Nat.le_refl _⟩) fun o ho=>?_
 ·obtain ⟨i,q⟩:=s
  obtain ⟨h1,h2⟩:=hs
  dsimp only at h1 h2
  unfold F_y
  refine Ok.ite (fun c=>?_) fun _=>Ok.ret h2
  have c:i≤8:=of_decide_eq_true c
  have hw:=wd_len i
  dsimp only
  rw [word_eq (by omega) (by omega),Option.bind_some]
  refine Ok.chk (strl_s (by simp;omega)) (Ok.bind (take_ok q _) fun y hy=>?_)
  have hy2:=hy.2.1
  refine Ok.ite (fun _=>Ok.chk (in64_s (by omega) (by omega)) (Ok.ret ⟨⟨by dsimp only;omega,by dsimp only;omega⟩,by dsimp only;omega⟩)) fun _=>?_
  refine Ok.jn (P:=fun _=>True) (Ok.ite (fun _=>Ok.ret trivial) fun _=>Ok.ite (fun _=>Ok.ret trivial) fun _=>Ok.ret trivial) fun b _=>Ok.ite (fun _=>?_) fun _=>Ok.ite (fun _=>?_) fun _=>?_
  ·refine Ok.bind (need_ok y.2 _) fun z hz=>Ok.bind (cut_ok 34 (by omega)) fun u hu=>Ok.grp (Ok.ret ⟨wf0 (by omega) (by omega),by dsimp only;omega⟩)
  ·refine Ok.bind (digits_ok (by omega)) fun z hz=>Ok.bind (puE_ok hz.1) fun u hu=>Ok.grp (Ok.ret ⟨wf0 hu.1 hu.2,by have:=hz.2;dsimp only;omega⟩)
  ·refine Ok.bind (digits_ok (by omega)) fun z hz=>Ok.bind (atoiE_ok hz.1) fun u hu=>Ok.grp (Ok.ret ⟨wf0 (by omega) (by omega),by have:=hz.2;dsimp only;omega⟩)
 ·cases o with
  | inl u=>exact Ok.ret ⟨wf0 (by omega) (by omega),ho⟩
  | inr u=>exact Ok.ret ho
theorem cond_ok:∀(m:Nat) (r:Greader) (d:Int),1≤d→(22 - d).toNat<m→r.text_.length≤70000→Ok (FR_0 m r d) (gv r.text_.length)
 | 0,r,d,hd,hm,hl=>by omega
 | m+1,r,d,hd,hm,hl=>by
  rw [FR_0]
  refine Ok.grp (Ok.ite (fun _=>Ok.ret ⟨wf0 (by omega) (by omega),Nat.le_refl _⟩) fun c=>?_)
  have c:d≤20:=by
   simp only [Bool.or_eq_false_iff,decide_eq_false_iff_not] at c
   omega
  have ih:∀q:Greader,q.text_.length≤70000→Ok (FR_0 m q (d+1)) (gv q.text_.length):=fun q hq=>cond_ok m q (d+1) (by omega) (by omega) hq
  have hin:in64 (d+1)=true:=in64_s (by omega) (by omega)
  refine Ok.bind (take_ok r _) fun y1 h1=>Ok.ite (fun _=>Ok.chk hin ?_) fun _=>Ok.bind (take_ok y1.2 _) fun y2 h2=>Ok.ite (fun _=>Ok.chk hin ?_) fun _=>?_
  ·refine Ok.bind (ih _ (by have:=h1.2.1;omega)) fun y3 h3=>Ok.bind (need_ok _ _) fun y4 h4=>Ok.ret ⟨wfk (by simp;exact h3.1),by have:=h1.2.1;have:=h3.2;dsimp only;omega⟩
  ·have a1:=h1.2.1;have a2:=h2.2.1
   refine Ok.bind (ih _ (by omega)) fun y3 h3=>?_
   have a3:=h3.2
   refine Ok.jn (P:=fun j=>j=10∨j=11) ?_ fun o ho=>?_
   ·rw [pre_eq,Option.bind_some]
    exact Ok.ite (fun _=>Ok.ret (.inr rfl)) fun _=>Ok.ret (.inl rfl)
   ·refine Ok.bind (Ok.loop (Q:=fun x:Int×List GTerm×Greader=>(∀k∈x.2.1,Wf k)∧x.2.2.text_.length≤r.text_.length) (fun x:Int×List GTerm×Greader=>x.1=o∧(∀k∈x.2.1,Wf k)∧x.2.1.length+x.2.2.text_.length≤r.text_.length+1∧x.2.2.text_.length≤r.text_.length) (fun x=>x.2.2.text_.length) (fun x hx=>?_) _ ⟨rfl,by simp;exact h3.1,by simp;omega,by dsimp only;omega⟩) fun x hx=>Ok.bind (need_ok _ _) fun z hz=>Ok.ret ⟨wfk hx.1,by have:=hx.2;dsimp only;omega⟩
    obtain ⟨p,l,q⟩:=x
    obtain ⟨g1,g2,g3,g4⟩:=hx
    dsimp only at g1 g2 g3 g4
    subst g1
    have hw:=wd_len p
    dsimp only
    rw [word_eq (by omega) (by omega),Option.bind_some]
    refine Ok.chk (strl_s (by simp;omega)) (Ok.chk (strl_s (by simp;omega)) (Ok.bind (take_ok q _) fun y4 h4=>Ok.ite (fun f=>Ok.chk hin ?_) fun _=>Ok.ret ⟨g2,by have:=h4.2.1;dsimp only;omega⟩))
    have e:=congrArg List.length (h4.2.2 f)
    simp only [List.length_append,List.length_cons,List.length_nil] at e
    refine Ok.bind (ih _ (by omega)) fun y5 h5=>?_
    have h52:=h5.2
    refine Ok.chk (room_s (by simp only [List.length_append,List.length_cons,List.length_nil];omega)) (Ok.ret ⟨⟨rfl,fun k hk=>?_,by dsimp only;simp only [List.length_append,List.length_cons,List.length_nil];omega,by dsimp only;omega⟩,by dsimp only;omega⟩)
    rcases List.mem_append.1 hk with hk|hk
    ·exact g2 k hk
    ·cases List.mem_singleton.1 hk;exact h5.1
  ·refine Ok.bind (simple_ok (by have:=h1.2.1;have:=h2.2.1;omega)) fun y3 h3=>Ok.ret ⟨h3.1,by have:=h1.2.1;have:=h2.2.1;have:=h3.2;dsimp only;omega⟩
theorem cond_mono:∀n (r:Greader) (d:Int),Le (FR_0 n r d) (FR_0 (n+1) r d)
 | 0,r,d=>by rw [FR_0];exact Le.non
 | n+1,r,d=>by
  have ih:=cond_mono n
  rw [FR_0,FR_0]
  (repeat' (with_reducible first|exact Le.refl|assumption|exact ih _ _|(refine Le.bind ?_ fun _=>?_)|(refine Le.jn ?_ fun _=>?_)|(refine Le.grp fun _=>?_)|(refine Le.chk ?_)|(refine Le.cond ?_ ?_)|(refine Le.fl (fun _=>?_) fun _=>?_)|(refine Le.sum (fun _=>?_) fun _=>?_)|(refine Le.loopL fun _=>?_)))
theorem condition_ok {r:Greader} (hl:r.text_.length≤70000):Ok (F_0 r 1) (gv r.text_.length) :=
 Ok.lim (f:=fun n=>FR_0 n r 1) (fun n=>cond_mono n r 1) 22 (cond_ok 22 r 1 (by omega) (by omega) hl)
end Go.Ab
namespace Go.Ab
open Go.Proofs
theorem trim_ok {s:Str} (hl:s.length≤70000):Ok (F_16 s [10]) fun y=>y.length≤s.length:=by
 unfold F_16 F_1t F_1b
 refine Ok.bind (P:=fun y:Str=>y.length≤s.length) (Ok.bind (P:=fun b:Bool=>b=true→1≤s.length) (Ok.jn (P:=fun b:Bool=>b=true→1≤s.length) (Ok.ite (fun c=>?_) fun _=>Ok.ret fun f=>by cases f) fun b hb=>Ok.ret hb) fun b hb=>Ok.ite (fun f=>?_) fun _=>Ok.ret (Nat.le_refl _)) fun y hy=>Ok.ret hy
 ·have c:=of_decide_eq_true c
  simp only [List.length_cons,List.length_nil] at c ⊢
  exact Ok.chk (in64_s (by omega) (by omega)) (Ok.chk (inc_iff.2 ⟨by omega,by omega,by omega⟩) (Ok.ret fun _=>by omega))
 ·have:=hb f
  simp only [List.length_cons,List.length_nil]
  exact Ok.chk (in64_s (by omega) (by omega)) (Ok.chk (inc_iff.2 ⟨by omega,by omega,by omega⟩) (Ok.ret (by rw [List.length_take];omega)))
theorem cutP_ok (s p:Str):Ok (F_k s p) fun y=>y.1.length≤s.length:=by
 by_cases c:s.take p.length=p
 ·have e:s=p++s.drop p.length:=by
   conv=>lhs;rw [←List.take_append_drop p.length s,c]
  rw [e,cutP_yes]
  exact Ok.ret (by simp)
 ·rw [cutP_no c]
  exact Ok.ret (Nat.le_refl _)
theorem read_ok {s:Str} (hl:s.length≤65536):Ok (F_14 s) fun y=>Wf y.1.When:=by
 unfold F_14
 refine Ok.bind (trim_ok (by omega)) fun y3 h3=>Ok.bind (cut_ok 58 (by omega)) fun y4 h4=>Ok.chk (strl_s (by simp;omega)) (Ok.bind (cutP_ok _ _) fun y6 h6=>?_)
 simp only [List.length_append,List.length_cons,List.length_nil] at h6
 refine Ok.jn (P:=fun j:Bool×Str×GRule=>j.2.1.length≤70000) (Ok.ite (fun _=>Ok.chk (strl_s (by simp;omega)) (Ok.bind (cutP_ok _ _) fun y7 h7=>Ok.ret ?_)) fun _=>Ok.ret (by dsimp only;omega)) fun j hj=>?_
 ·simp only [List.length_append,List.length_cons,List.length_nil] at h7
  dsimp only;omega
 ·refine Ok.bind (condition_ok hj) fun y8 h8=>Ok.ite (fun _=>Ok.ite (fun _=>Ok.ret h8.1) fun _=>Ok.ret h8.1) fun _=>Ok.ret h8.1
structure GL (l:List GRule):Prop where
 v:VR' l
 w:∀r∈l,Wf r.When
theorem parse_ok {s:Str} (hl:s.length≤65536):Ok (F_r s) fun y=>y=([],4)∨(GL y.1∧rtxt y.1=s∧y.2=0):=by
 unfold F_r
 refine Ok.ite (fun c=>by have:=of_decide_eq_true c;omega) fun _=>?_
 rw [show linF s=some () from rfl,Option.bind_some]
 refine Ok.bind (Ok.forI (all:=linesL s) (Q:=fun o:Fl (List GRule) (List GRule×Int)=>Fl.elim (fun x:List GRule=>∀r∈x,Wf r.When) (fun x:List GRule×Int=>x=([],4)) o) (fun _ x=>x.length≤40∧∀r∈x,Wf r.When) (linesL s) [] 0 [] rfl rfl ⟨by simp,by simp⟩ (fun pre a q x hw hx=>?_) fun x hx=>hx.2) fun o ho=>?_
 ·unfold F_2e
  have hm:=mem_at hw
  refine Ok.bind (read_ok (by have:=linesL_le hm;omega)) fun y hy=>Ok.grp (Ok.ite (fun _=>Ok.ret rfl) fun c=>?_)
  have c:¬(x.length:Int)=40:=by
   intro h
   simp [h] at c
  refine Ok.chk (room_s (by simp;omega)) (Ok.ret ⟨by simp;omega,fun r hr=>?_⟩)
  rcases List.mem_append.1 hr with hr|hr
  ·exact hx.2 r hr
  ·cases List.mem_singleton.1 hr;exact hy
 ·cases o with
  | ex x=>cases ho;exact Ok.ret (.inl rfl)
  | nx x =>
   show Ok ((F_x x).bind _) _
   rw [valid_eq,Option.bind_some]
   refine Ok.ite (fun _=>Ok.ret (.inl rfl)) fun c=>?_
   have c:verr x=0:=by simpa using c
   have hv:=verr_zero.1 c
   rw [text_eq hv ho,Option.bind_some]
   refine Ok.ite (fun _=>Ok.ret (.inl rfl)) fun c=>Ok.ret (.inr ⟨⟨hv,ho⟩,by simpa using c,rfl⟩)
theorem parse_char {s:Str} (hl:s.length≤65536):(∃l,GL l∧rtxt l=s∧F_r s=some (l,0))∨((¬∃l,GL l∧rtxt l=s)∧F_r s=some ([],4)):=by
 by_cases c:∃l,GL l∧rtxt l=s
 ·obtain ⟨l,h1,rfl⟩:=c
  exact .inl ⟨l,h1,rfl,Parse_eq h1.v h1.w hl⟩
 ·obtain ⟨y,e,h⟩:=parse_ok hl
  refine .inr ⟨c,?_⟩
  rcases h with rfl|⟨h1,h2,_⟩
  ·exact e
  ·exact absurd ⟨_,h1,h2⟩ c
end Go.Ab
namespace Go.Ab
open Go.Proofs
structure PI (S:Str) (p:Gparser):Prop where
 s:p.s_=S
 a0:0≤p.at_
 a1:p.at_≤S.length
theorem tk_ok {S:Str} {p:Gparser} (t:Str) (hS:S.length≤70000) (ht:t.length≤1000) (h:PI S p):Ok (F_2 p t) fun y=>PI S y.2∧y.2.ok_=p.ok_∧(y.1=true→y.2.at_=p.at_+t.length)∧(y.1=false→y.2=p):=by
 obtain ⟨s,a,k⟩:=p
 obtain ⟨h1,h2,h3⟩:=h
 dsimp only at h1 h2 h3
 subst h1
 unfold F_2
 dsimp only
 refine Ok.chk (in64_s (by omega) (by omega)) (Ok.ite (fun c=>?_) fun _=>Ok.ret ⟨⟨rfl,h2,h3⟩,rfl,fun f=>(by cases f),fun _=>rfl⟩)
 have c:=of_decide_eq_true c
 refine Ok.chk (in64_s (by omega) (by omega)) (Ok.chk (inc_iff.2 ⟨by omega,by omega,by omega⟩) (Ok.ite (fun _=>Ok.chk (in64_s (by omega) (by omega)) (Ok.ret ⟨⟨rfl,by dsimp only;omega,by dsimp only;omega⟩,rfl,fun _=>rfl,fun f=>(by cases f)⟩)) fun _=>Ok.ret ⟨⟨rfl,h2,h3⟩,rfl,fun f=>(by cases f),fun _=>rfl⟩))
theorem wd_ok {S:Str} {p:Gparser} (hS:S.length≤70000) (h:PI S p):Ok (F_15 p) fun y=>PI S y.2∧y.2.ok_=p.ok_∧p.at_≤y.2.at_∧y.1.length≤70000:=by
 unfold F_15
 refine Ok.bind (Ok.loop (Q:=fun y:Gparser=>PI S y∧y.ok_=p.ok_∧p.at_≤y.at_) (fun y:Gparser=>PI S y∧y.ok_=p.ok_∧p.at_≤y.at_) (fun y=>(S.length - y.at_).toNat) (fun y hy=>?_) _ ⟨h,rfl,Int.le_refl _⟩) fun y hy=>?_
 ·obtain ⟨⟨h1,h2,h3⟩,h4,h5⟩:=hy
  unfold F_2g
  rw [h1]
  refine Ok.ite (fun c=>?_) fun _=>Ok.ret ⟨⟨h1,h2,h3⟩,h4,h5⟩
  have c:=of_decide_eq_true c
  have hi:inb y.at_ S.length=true:=inb_iff.2 ⟨h2,c⟩
  have ex:Ok (some (Fl.ex y:Fl Gparser Gparser)) (Fl.elim (fun s'=>(PI S s'∧s'.ok_=p.ok_∧p.at_≤s'.at_)∧(S.length - s'.at_).toNat<(S.length - y.at_).toNat) fun y=>PI S y∧y.ok_=p.ok_∧p.at_≤y.at_):=Ok.ret ⟨⟨h1,h2,h3⟩,h4,h5⟩
  exact Ok.chk hi (Ok.ite (fun _=>Ok.chk hi (Ok.ite (fun _=>Ok.chk hi (Ok.ite (fun _=>Ok.chk hi (Ok.ite (fun _=>Ok.chk (in64_s (by omega) (by omega)) (Ok.ret ⟨⟨⟨rfl,by dsimp only;omega,by dsimp only;omega⟩,h4,by dsimp only;omega⟩,by dsimp only;omega⟩)) fun _=>ex)) fun _=>ex)) fun _=>ex)) fun _=>ex)
 ·obtain ⟨⟨h1,h2,h3⟩,h4,h5⟩:=hy
  have:=h.a0
  rw [h1]
  exact Ok.chk (inc_iff.2 ⟨by omega,by omega,by omega⟩) (Ok.ret ⟨⟨h1,h2,h3⟩,h4,h5,by dsimp only;simp;omega⟩)
theorem qt_ok {S:Str} {p:Gparser} (hS:S.length≤70000) (h:PI S p):Ok (F_1g p) fun y=>PI S y.2∧p.at_≤y.2.at_∧y.1.length≤70000:=by
 unfold F_1g
 refine Ok.jn (P:=fun j:Bool×Gparser=>PI S j.2∧p.at_≤j.2.at_) (Ok.ite (fun _=>Ok.bind (tk_ok _ hS (by simp) h) fun y hy=>Ok.ret ⟨hy.1,?_⟩) fun _=>Ok.ret ⟨h,Int.le_refl _⟩) fun j hj=>?_
 ·dsimp only
  cases hb:y.1 with
  | true=>have:=hy.2.2.1 hb;omega
  | false=>rw [hy.2.2.2 hb];omega
 obtain ⟨⟨j1,j2,j3⟩,j4⟩:=hj
 refine Ok.bind (Ok.loop (Q:=fun y:Gparser=>PI S y∧j.2.at_≤y.at_) (fun y:Gparser=>PI S y∧j.2.at_≤y.at_) (fun y=>(S.length - y.at_).toNat) (fun y hy=>?_) _ ⟨⟨j1,j2,j3⟩,Int.le_refl _⟩) fun y hy=>?_
 ·obtain ⟨⟨h1,h2,h3⟩,h5⟩:=hy
  unfold F_2h
  rw [h1]
  refine Ok.ite (fun c=>?_) fun _=>Ok.ret ⟨⟨h1,h2,h3⟩,h5⟩
  have c:=of_decide_eq_true c
  exact Ok.chk (inb_iff.2 ⟨h2,c⟩) (Ok.ite (fun _=>Ok.chk (in64_s (by omega) (by omega)) (Ok.ret ⟨⟨⟨rfl,by dsimp only;omega,by dsimp only;omega⟩,by dsimp only;omega⟩,by dsimp only;omega⟩)) fun _=>Ok.ret ⟨⟨h1,h2,h3⟩,h5⟩)
 ·obtain ⟨⟨h1,h2,h3⟩,h5⟩:=hy
  rw [h1]
  refine Ok.chk (inc_iff.2 ⟨by omega,by omega,by omega⟩) (Ok.jn (P:=fun j:Bool×Gparser=>PI S j.2∧p.at_≤j.2.at_) (Ok.ite (fun _=>Ok.bind (tk_ok _ hS (by simp) ⟨h1,h2,h3⟩) fun z hz=>Ok.ret ⟨hz.1,?_⟩) fun _=>Ok.ret ⟨⟨h1,h2,h3⟩,by dsimp only;omega⟩) fun k hk=>Ok.ret ⟨⟨hk.1.s,hk.1.a0,hk.1.a1⟩,hk.2,by dsimp only;simp;omega⟩)
  dsimp only
  cases hb:z.1 with
  | true=>have:=hz.2.2.1 hb;omega
  | false=>rw [hz.2.2.2 hb];omega
theorem wrap_u {z:Int}:0≤IntKind.wrap .u64 z∧IntKind.wrap .u64 z<18446744073709551616:=by
 rw [IntKind.wrap_u64];omega
theorem rngb_u8 (c:UInt8):rngb .u64 (c.toNat:Int)=true:=by
 have:=c.toNat_lt
 rw [←rngb_u64]
 exact ⟨by omega,by omega⟩
theorem nb_ok {S:Str} {p:Gparser} (hS:S.length≤70000) (h:PI S p):Ok (F_18 p) fun y=>PI S y.2∧p.at_≤y.2.at_∧0≤y.1∧y.1<18446744073709551616:=by
 unfold F_18
 refine Ok.bind (wd_ok hS h) fun y2 h2=>Ok.grp (Ok.grp (Ok.bind (Ok.loop (Q:=fun r:Int×Gparser=>PI S r.2∧p.at_≤r.2.at_∧0≤r.1∧r.1<18446744073709551616) (fun x:Int×Int×Gparser=>PI S x.2.2∧p.at_≤x.2.2.at_∧0≤x.1∧x.1<18446744073709551616∧0≤x.2.1) (fun x=>(y2.1.length - x.2.1).toNat) (fun x hx=>?_) _ ⟨⟨h2.1.s,h2.1.a0,h2.1.a1⟩,h2.2.2.1,Int.le_refl 0,by dsimp only;omega,Int.le_refl 0⟩) fun r hr=>Ok.ret hr))
 obtain ⟨v,i,q⟩:=x
 obtain ⟨h3,h4,h5,h6,h7⟩:=hx
 dsimp only at h3 h4 h5 h6 h7
 have hl:=h2.2.2.2
 unfold F_2i
 refine Ok.ite (fun c=>?_) fun _=>Ok.ret ⟨h3,h4,h5,h6⟩
 have c:i<y2.1.length:=of_decide_eq_true c
 have hi:inb i y2.1.length=true:=inb_iff.2 ⟨h7,c⟩
 refine Ok.jn (P:=fun _=>True) (Ok.ite (fun _=>Ok.chk hi (Ok.ret trivial)) fun _=>Ok.ret trivial) fun b _=>Ok.jn (P:=fun _=>True) (Ok.ite (fun _=>Ok.chk hi (Ok.ret trivial)) fun _=>Ok.ret trivial) fun b2 _=>?_
 exact Ok.chk hi (Ok.chk (rngb_u8 _) (Ok.chk (in64_s (by dsimp only;omega) (by dsimp only;omega)) (Ok.ret ⟨⟨⟨h3.s,h3.a0,h3.a1⟩,h4,wrap_u.1,wrap_u.2,by dsimp only;omega⟩,by dsimp only;omega⟩)))
end Go.Ab
namespace Go.Ab
open Go.Proofs
def gw (x:GTerm):Prop:=Wf x∧Lens x
theorem gw0 {o:Int} {s:Str} {n p:Int} (h0:0≤p) (h1:p<18446744073709551616) (hs:s.length≤70000):gw (GTerm.mk o s n p []):=⟨wf0 h0 h1,.mk _ (by dsimp only;omega) (by simp) (by simp)⟩
theorem gwk {o:Int} {l:List GTerm} (h:∀k∈l,gw k) (hl:l.length≤100000):gw (GTerm.mk o [] 0 0 l):=⟨wfk fun k hk=>(h k hk).1,.mk _ (by simp) (by dsimp only;omega) fun k hk=>(h k hk).2⟩
def pv (S:Str) (p:Gparser) (y:GTerm×Gparser):Prop:=PI S y.2∧p.at_≤y.2.at_∧gw y.1∧(p.ok_=false→y.2.ok_=false)
theorem b2n (b:Bool):b.toNat≤1:=by cases b<;>decide
theorem term_ok {S:Str} (hS:S.length≤70000):∀(m:Nat) (p:Gparser) (d:Int),PI S p→0≤d→d≤21→d.toNat<m→Ok (FR_1 m p d) (pv S p)
 | 0,p,d,hp,h0,h1,hm=>by omega
 | m + 1,p,d,hp,h0,h1,hm=>by
  rw [FR_1]
  refine Ok.grp (Ok.ite (fun _=>Ok.ret ⟨⟨hp.s,hp.a0,hp.a1⟩,Int.le_refl _,gw0 (by omega) (by omega) (by simp),fun _=>rfl⟩) fun c=>?_)
  simp only [Bool.or_eq_false_iff,decide_eq_false_iff_not,Bool.not_eq_false'] at c
  obtain ⟨c,hok⟩:=c
  have nok:∀{q:Prop},p.ok_=false→q:=fun f=>by rw [hok] at f;cases f
  have ih:∀q:Gparser,PI S q→Ok (FR_1 m q (d - 1)) (pv S q):=fun q hq=>term_ok hS m q (d - 1) hq (by omega) (by omega) (by omega)
  have hin:in64 (d - 1)=true:=in64_s (by omega) (by omega)
  refine Ok.bind (tk_ok _ hS (by simp) hp) fun y1 h1=>Ok.ite (fun f1=>Ok.chk hin ?_) fun f1=>Ok.bind (tk_ok _ hS (by simp) h1.1) fun y2 h2=>Ok.ite (fun f2=>Ok.chk hin ?_) fun f2=>?_
  ·have a1:=h1.2.2.1 f1
   refine Ok.bind (ih _ h1.1) fun y3 h3=>Ok.jn (P:=fun j:Bool×Gparser=>PI S j.2∧y3.2.at_≤j.2.at_) (Ok.ite (fun _=>Ok.bind (tk_ok _ hS (by simp) h3.1) fun y4 h4=>Ok.ret ⟨h4.1,?_⟩) fun _=>Ok.ret ⟨h3.1,Int.le_refl _⟩) fun j hj=>Ok.ret ⟨⟨hj.1.s,hj.1.a0,hj.1.a1⟩,?_,gwk (by simp;exact h3.2.2.1) (by simp),nok⟩
   ·dsimp only
    cases hb:y4.1 with
    | true=>have:=h4.2.2.1 hb;omega
    | false=>rw [h4.2.2.2 hb];omega
   ·have:=h3.2.1;have:=hj.2
    dsimp only;omega
  ·have a1:=h1.2.2.2 f1
   have a2:=h2.2.2.1 f2
   rw [a1] at a2
   refine Ok.bind (ih _ h2.1) fun y3 h3=>?_
   have a3:=h3.2.1
   have a30:=h3.1.a0
   refine Ok.bind (Ok.loop (Q:=fun x:Int×List GTerm×Gparser=>PI S x.2.2∧p.at_≤x.2.2.at_∧(∀k∈x.2.1,gw k)∧x.2.1.length≤80000) (fun x:Int×List GTerm×Gparser=>PI S x.2.2∧p.at_≤x.2.2.at_∧(∀k∈x.2.1,gw k)∧(x.2.1.length:Int)≤x.2.2.at_+2 - x.2.2.ok_.toNat) (fun x=>(2*(S.length - x.2.2.at_)+x.2.2.ok_.toNat).toNat) (fun x hx=>?_) _ ⟨h3.1,by dsimp only;omega,by simp;exact h3.2.2.1,by
    have:=b2n y3.2.ok_
    simp only [List.length_cons,List.length_nil];omega⟩) fun x hx=>Ok.ret ⟨hx.1,hx.2.1,gwk hx.2.2.1 (by have:=hx.2.2.2;omega),nok⟩
   obtain ⟨o,l,q⟩:=x
   obtain ⟨g1,g2,g3,g4⟩:=hx
   dsimp only at g1 g2 g3 g4
   have ga:=g1.a1
   have gb:=b2n q.ok_
   dsimp only
   refine Ok.ite (fun fq=>Ok.bind (tk_ok _ hS (by simp) g1) fun y4 h4=>Ok.ite (fun f4=>?_) fun f4=>Ok.ret ⟨h4.1,by
     have:=h4.2.2.1 (by simpa using f4)
     dsimp only;omega,g3,by dsimp only;omega⟩) fun _=>Ok.ret ⟨g1,g2,g3,by dsimp only;omega⟩
   have e4:=h4.2.2.2 (by simpa using f4)
   rw [e4]
   have tq:∀(b:Bool) (t:Str),4≤t.length→t.length≤1000→Ok (bif b then (F_2 q t).bind fun y283=>some (y283.1,y283.2) else some (false,q)) fun j:Bool×Gparser=>(j.1=true→PI S j.2∧q.at_+4≤j.2.at_∧j.2.ok_=q.ok_)∧(j.1=false→j.2=q):=by
    intro b t ht ht2
    refine Ok.ite (fun _=>Ok.bind (tk_ok t hS ht2 g1) fun z hz=>Ok.ret ⟨fun f=>⟨hz.1,by have:=hz.2.2.1 f;dsimp only;omega,hz.2.1⟩,fun f=>hz.2.2.2 f⟩) fun _=>Ok.ret ⟨fun f=>(by cases f),fun _=>rfl⟩
   refine Ok.jn (P:=fun j:Gparser×Int=>PI S j.1∧((j.1.ok_=true∧q.at_+4≤j.1.at_)∨(j.1.ok_=false∧q.at_≤j.1.at_))) (Ok.grp (Ok.jn (tq _ _ (by simp) (by simp)) fun j1 hj1=>Ok.ite (fun f=>?_) fun f=>Ok.grp ?_)) fun j hj=>?_
   ·have:=hj1.1 f
    exact Ok.ret ⟨this.1,.inl ⟨this.2.2.trans fq,this.2.1⟩⟩
   ·rw [hj1.2 f]
    refine Ok.jn (tq _ _ (by simp) (by simp)) fun j2 hj2=>Ok.ite (fun f2=>?_) fun f2=>?_
    ·have:=hj2.1 f2
     exact Ok.ret ⟨this.1,.inl ⟨this.2.2.trans fq,this.2.1⟩⟩
    ·rw [hj2.2 f2]
     exact Ok.ret ⟨⟨g1.s,g1.a0,g1.a1⟩,.inr ⟨rfl,Int.le_refl _⟩⟩
   ·refine Ok.chk hin (Ok.bind (ih _ hj.1) fun y5 h5=>?_)
    obtain ⟨k1,k2,k3,k4⟩:=h5
    have ka:=k1.a1
    have kb:=b2n y5.2.ok_
    rw [fq] at g4
    have hq1:(q.ok_.toNat:Int)=1:=by rw [fq];rfl
    have g4:(l.length:Int)≤q.at_+1:=by simp at g4;omega
    have hmem:∀k∈l++[y5.1],gw k:=fun k hk=>by
     rcases List.mem_append.1 hk with hk|hk
     ·exact g3 k hk
     ·cases List.mem_singleton.1 hk;exact k3
    refine Ok.chk (room_s (by simp only [List.length_append,List.length_cons,List.length_nil];omega)) (Ok.ret ⟨⟨k1,?_,hmem,?_⟩,?_⟩)
    ·rcases hj.2 with h|h<;>dsimp only<;>omega
    ·simp only [List.length_append,List.length_cons,List.length_nil]
     rcases hj.2 with h|h
     ·omega
     ·have:(y5.2.ok_.toNat:Int)=0:=by rw [k4 h.1];rfl
      omega
    ·dsimp only
     rcases hj.2 with h|h
     ·omega
     ·have:y5.2.ok_.toNat=0:=by rw [k4 h.1];rfl
      have:q.ok_.toNat=1:=by rw [fq];rfl
      omega
  ·have a1:=h1.2.2.2 f1
   have a2:=h2.2.2.2 f2
   rw [a1] at a2
   refine Ok.bind (wd_ok hS h2.1) fun y3 h3=>?_
   rw [a2] at h3
   rw [show F_17=some words12 from rfl,Option.bind_some]
   refine Ok.jn (P:=fun j:Bool×Gparser=>PI S j.2∧y3.2.at_≤j.2.at_) (Ok.ite (fun _=>Ok.bind (tk_ok _ hS (by simp) h3.1) fun y4 h4=>Ok.ret ⟨h4.1,?_⟩) fun _=>Ok.ret ⟨h3.1,Int.le_refl _⟩) fun j hj=>?_
   ·dsimp only
    cases hb:y4.1 with
    | true=>have:=h4.2.2.1 hb;omega
    | false=>rw [h4.2.2.2 hb];omega
   have hj3:PI S (Gparser.mk j.2.s_ j.2.at_ j.1):=⟨hj.1.s,hj.1.a0,hj.1.a1⟩
   have hat:p.at_≤j.2.at_:=by have:=h3.2.2.1;have:=hj.2;omega
   refine Ok.bind (Ok.loop (Q:=fun o:Sum Unit (GTerm×Gparser)=>∀y,o=.inr y→PI S y.2∧p.at_≤y.2.at_∧gw y.1) (fun i:Int=>1≤i) (fun i=>(9 - i).toNat) (fun i hi=>?_) _ (by omega)) fun o ho=>?_
   ·refine Ok.ite (fun c8=>?_) fun _=>Ok.ret fun y f=>(by cases f)
    have c8:i≤8:=of_decide_eq_true c8
    refine Ok.chk (inb_iff.2 ⟨by omega,by show i<12;omega⟩) (Ok.ite (fun _=>Ok.chk (in64_s (by omega) (by omega)) (Ok.ret ⟨by omega,by omega⟩)) fun _=>Ok.ite (fun _=>?_) fun _=>Ok.ite (fun _=>?_) fun _=>?_)
    ·refine Ok.bind (qt_ok hS hj3) fun z hz=>Ok.ret fun y e=>?_
     cases e
     exact ⟨hz.1,by have:=hz.2.1;dsimp only at this ⊢;omega,gw0 (by omega) (by omega) hz.2.2⟩
    ·refine Ok.bind (nb_ok hS hj3) fun z hz=>Ok.ret fun y e=>?_
     cases e
     exact ⟨hz.1,by have:=hz.2.1;dsimp only at this ⊢;omega,gw0 hz.2.2.1 hz.2.2.2 (by simp)⟩
    ·refine Ok.bind (nb_ok hS hj3) fun z hz=>Ok.grp (Ok.ret fun y e=>?_)
     cases e
     exact ⟨⟨hz.1.s,hz.1.a0,hz.1.a1⟩,by have:=hz.2.1;dsimp only at this ⊢;omega,gw0 (by omega) (by omega) (by simp)⟩
   ·cases o with
    | inl u=>exact Ok.ret ⟨⟨hj.1.s,hj.1.a0,hj.1.a1⟩,hat,gw0 (by omega) (by omega) (by simp),nok⟩
    | inr u =>
     have:=ho u rfl
     exact Ok.ret ⟨this.1,this.2.1,this.2.2,nok⟩
theorem term_mono:∀n (p:Gparser) (d:Int),Le (FR_1 n p d) (FR_1 (n+1) p d)
 | 0,p,d=>by rw [FR_1];exact Le.non
 | n+1,p,d=>by
  have ih:=term_mono n
  rw [FR_1,FR_1]
  (repeat' (with_reducible first|exact Le.refl|assumption|exact ih _ _|(refine Le.bind ?_ fun _=>?_)|(refine Le.jn ?_ fun _=>?_)|(refine Le.grp fun _=>?_)|(refine Le.chk ?_)|(refine Le.cond ?_ ?_)|(refine Le.fl (fun _=>?_) fun _=>?_)|(refine Le.sum (fun _=>?_) fun _=>?_)|(refine Le.loopL fun _=>?_)))
theorem pterm_ok {S:Str} (hS:S.length≤70000) {p:Gparser} (h:PI S p):Ok (F_1 p 21) (pv S p) :=
 Ok.lim (f:=fun n=>FR_1 n p 21) (fun n=>term_mono n p 21) 22 (term_ok hS 22 p 21 h (by omega) (by omega) (by decide))
end Go.Ab
namespace Go.Ab
open Go.Proofs
theorem line_ok {s:Str} (hl:s.length≤65536):Ok (F_1h s) fun y=>LensR y.1∧Wf y.1.When:=by
 unfold F_1h
 refine Ok.bind (Ok.loop (Q:=fun i:Int=>0≤i∧i≤s.length) (fun i:Int=>0≤i∧i≤s.length) (fun i=>(s.length - i).toNat) (fun i hi=>?_) _ ⟨by omega,by omega⟩) fun i hi=>?_
 ·unfold F_28
  refine Ok.ite (fun c=>?_) fun _=>Ok.ret hi
  have c:=of_decide_eq_true c
  exact Ok.chk (inb_iff.2 ⟨hi.1,c⟩) (Ok.ite (fun _=>Ok.chk (in64_s (by omega) (by omega)) (Ok.ret ⟨⟨by omega,by omega⟩,by omega⟩)) fun _=>Ok.ret hi)
 ·have hp:PI s (Gparser.mk s i true):=⟨rfl,hi.1,hi.2⟩
  have hn:(s.take i.toNat).length≤70000:=by rw [List.length_take];omega
  have g0:gw (GTerm.mk 0 [] 0 0 []):=gw0 (by omega) (by omega) (by simp)
  refine Ok.chk (inc_iff.2 ⟨by omega,hi.1,by omega⟩) (Ok.jn (P:=fun o:Fl (Gparser×GRule) (GRule×Bool)=>Fl.elim (fun j:Gparser×GRule=>PI s j.1∧j.2.Name.length≤70000) (fun y:GRule×Bool=>LensR y.1∧Wf y.1.When) o) (Ok.bind (tk_ok _ (by omega) (by simp) hp) fun y1 h1=>Ok.ite (fun _=>Ok.ret ⟨h1.1,hn⟩) fun _=>Ok.bind (tk_ok _ (by omega) (by simp) h1.1) fun y2 h2=>Ok.ite (fun _=>Ok.ret ⟨h2.1,hn⟩) fun _=>Ok.ret ⟨⟨by dsimp only;omega,g0.2⟩,g0.1⟩) fun o ho=>?_)
  cases o with
  | ex y=>exact Ok.ret ho
  | nx j =>
   show Ok ((F_1 j.1 21).bind _) _
   refine Ok.bind (pterm_ok (by omega) ho.1) fun y hy=>?_
   have hr:∀v:Int,LensR (GRule.mk j.2.Name y.1 v)∧Wf (GRule.mk j.2.Name y.1 v).When:=fun v=>⟨⟨by have:=ho.2;dsimp only;omega,hy.2.2.1.2⟩,hy.2.2.1.1⟩
   exact Ok.ite (fun _=>Ok.ret (hr _)) fun _=>Ok.ret (hr _)
theorem rcut_ok {s:Str} (c:UInt8) (hl:s.length≤65536):Ok (F_1f s c) fun y=>∀x∈y,x.length≤s.length:=by
 unfold F_1f
 refine Ok.bind (Ok.loop (Q:=fun y:List Str=>∀x∈y,x.length≤s.length) (fun x:Int×Int×List Str=>0≤x.1∧x.1≤x.2.1∧x.2.1≤s.length+1∧(x.2.2.length:Int)≤x.2.1∧∀z∈x.2.2,z.length≤s.length) (fun x=>(s.length+1 - x.2.1).toNat) (fun x hx=>?_) _ ⟨Int.le_refl 0,Int.le_refl 0,by dsimp only;omega,by simp,by simp⟩) fun y hy=>Ok.ret hy
 obtain ⟨a,i,l⟩:=x
 obtain ⟨h1,h2,h3,h4,h5⟩:=hx
 dsimp only at h1 h2 h3 h4 h5
 unfold F_2f
 dsimp only
 refine Ok.ite (fun d=>?_) fun _=>Ok.ret h5
 have d:=of_decide_eq_true d
 refine Ok.jn (P:=fun j:Int×List Str=>0≤j.1∧j.1≤i+1∧(j.2.length:Int)≤i+1∧∀z∈j.2,z.length≤s.length) (Ok.jn (P:=fun _=>True) (Ok.ite (fun _=>Ok.ret trivial) fun e=>Ok.chk (inb_iff.2 ⟨by omega,by have:=of_decide_eq_false e;omega⟩) (Ok.ret trivial)) fun b _=>Ok.ite (fun _=>?_) fun _=>Ok.ret ⟨h1,by dsimp only;omega,by dsimp only;omega,h5⟩) fun j hj=>Ok.chk (in64_s (by omega) (by omega)) (Ok.ret ⟨⟨hj.1,hj.2.1,by dsimp only;omega,hj.2.2.1,hj.2.2.2⟩,by dsimp only;omega⟩)
 refine Ok.chk (inc_iff.2 ⟨by omega,by omega,by omega⟩) (Ok.chk (room_s (by simp only [List.length_append,List.length_cons,List.length_nil];omega)) (Ok.chk (in64_s (by omega) (by omega)) (Ok.ret ⟨by dsimp only;omega,by dsimp only;omega,by simp only [List.length_append,List.length_cons,List.length_nil];omega,fun z hz=>?_⟩)))
 rcases List.mem_append.1 hz with hz|hz
 ·exact h5 z hz
 ·cases List.mem_singleton.1 hz
  rw [List.length_drop,List.length_take];omega
theorem rText_bad {l:List GRule} (hl:∀r∈l,LensR r) (c:verr l≠0):F_10 l=some ([],verr l):=by
 refine Ok.eq ?_
 unfold F_10
 rw [rvalid_eq hl,Option.bind_some]
 refine Ok.ite (fun _=>Ok.ret rfl) fun f=>by simp [c] at f
theorem rparse_ok {s:Str} (hl:s.length≤65536):Ok (F_19 s) fun y=>y=([],4)∨(GL y.1∧rtxt y.1=s∧y.2=0):=by
 unfold F_19
 refine Ok.ite (fun c=>by have:=of_decide_eq_true c;omega) fun _=>Ok.bind (rcut_ok 10 hl) fun y2 h2=>Ok.ite (fun _=>Ok.ret (.inl rfl)) fun c=>?_
 have c:=of_decide_eq_false c
 refine Ok.bind (Ok.loop (Q:=fun o:Sum (List GRule) (List GRule×Int)=>Sum.elim (fun x:List GRule=>∀r∈x,LensR r∧Wf r.When) (fun y:List GRule×Int=>y=([],4)) o) (fun x:Int×List GRule=>x.1=x.2.length∧x.1≤41∧∀r∈x.2,LensR r∧Wf r.When) (fun x=>(41 - x.1).toNat) (fun x hx=>?_) _ ⟨by simp,by omega,by simp⟩) fun o ho=>?_
 ·obtain ⟨i,l⟩:=x
  obtain ⟨h1,h3,h4⟩:=hx
  dsimp only at h1 h3 h4
  subst h1
  unfold F_2j
  refine Ok.chk (in64_s (by dsimp only;omega) (by dsimp only;omega)) (Ok.ite (fun d=>?_) fun _=>Ok.ret h4)
  have d:(l.length:Int)+1<y2.length:=of_decide_eq_true d
  have hm:y2.getD ((l.length:Int)).toNat default∈y2:=by
   have hlt:((l.length:Int)).toNat<y2.length:=by omega
   rw [List.getD_eq_getElem?_getD,List.getElem?_eq_getElem hlt]
   exact List.getElem_mem hlt
  refine Ok.chk (inb_iff.2 ⟨by dsimp only;omega,by dsimp only;omega⟩) (Ok.bind (line_ok (by have:=h2 _ hm;dsimp only;omega)) fun y hy=>Ok.ite (fun _=>Ok.ret rfl) fun _=>Ok.chk (room_s (by simp only [List.length_append,List.length_cons,List.length_nil];omega)) (Ok.chk (in64_s (by dsimp only;omega) (by dsimp only;omega)) (Ok.ret ⟨⟨by simp,by dsimp only;omega,fun r hr=>?_⟩,by dsimp only;omega⟩)))
  rcases List.mem_append.1 hr with hr|hr
  ·exact h4 r hr
  ·cases List.mem_singleton.1 hr;exact hy
 ·cases o with
  | inr y=>cases ho;exact Ok.ret (.inl rfl)
  | inl x =>
   show Ok ((F_10 x).bind _) _
   have hL:∀r∈x,LensR r:=fun r hr=>(ho r hr).1
   have hW:∀r∈x,Wf r.When:=fun r hr=>(ho r hr).2
   by_cases c:verr x=0
   ·have hv:=verr_zero.1 c
    rw [rText_eq hL hv hW,Option.bind_some]
    refine Ok.grp (Ok.ite (fun _=>Ok.ret (.inl rfl)) fun d=>Ok.ret (.inr ⟨⟨hv,hW⟩,by simpa using d,rfl⟩))
   ·rw [rText_bad hL c,Option.bind_some]
    refine Ok.grp (Ok.ite (fun _=>Ok.ret (.inl rfl)) fun d=>by simp [c] at d)
end Go.Ab
namespace Go.Ab
open Go.Proofs
def gp (pre q:Str):Gparser:=Gparser.mk (pre++q) (pre.length:Int) true
theorem gp_eq {pre t q:Str} {n:Int} (h:n=(pre.length:Int)+t.length):Gparser.mk (pre++(t++q)) n true=gp (pre++t) q:=by
 unfold gp;rw [List.append_assoc,List.length_append,h];simp
theorem tk_yes {pre t q:Str} (hl:(pre++(t++q)).length≤100000000):F_2 (gp pre (t++q)) t=some (true,gp (pre++t) q):=by
 simp only [List.length_append] at hl
 refine Ok.eq ?_
 unfold F_2 gp
 dsimp only
 refine Ok.chk (in64_s (by simp only [List.length_append];omega) (by simp only [List.length_append];omega)) (Ok.ite (fun _=>?_) fun c=>by
  have:=of_decide_eq_false c
  simp only [List.length_append] at this;omega)
 refine Ok.chk (in64_s (by omega) (by omega)) (Ok.chk (inc_iff.2 ⟨by omega,by omega,by simp only [List.length_append];omega⟩) (Ok.ite (fun _=>Ok.chk (in64_s (by omega) (by omega)) (Ok.ret ?_)) fun c=>?_))
 ·rw [gp_eq rfl];rfl
 ·have c:=of_decide_eq_false c
  refine absurd ?_ c
  rw [show ((pre.length:Int)+t.length).toNat=(pre++t).length by simp;omega,Int.toNat_natCast,←List.append_assoc,List.take_left,List.drop_left]
theorem tk_no {pre t q:Str} (hl:(pre++q).length≤100000000) (ht:t.length≤1000) (h:q.take t.length≠t):F_2 (gp pre q) t=some (false,gp pre q):=by
 simp only [List.length_append] at hl
 refine Ok.eq ?_
 unfold F_2 gp
 dsimp only
 refine Ok.chk (in64_s (by simp only [List.length_append];omega) (by simp only [List.length_append];omega)) (Ok.ite (fun c=>?_) fun c=>Ok.ret rfl)
 have c:=of_decide_eq_true c
 simp only [List.length_append] at c
 refine Ok.chk (in64_s (by omega) (by omega)) (Ok.chk (inc_iff.2 ⟨by omega,by omega,by simp only [List.length_append];omega⟩) (Ok.ite (fun d=>?_) fun _=>Ok.ret rfl))
 have d:=of_decide_eq_true d
 refine absurd ?_ h
 have e:((pre.length:Int)+t.length).toNat=pre.length+t.length:=by omega
 rw [e,Int.toNat_natCast,List.take_append,List.take_of_length_le (by omega),List.drop_left,Nat.add_sub_cancel_left] at d
 exact d
theorem tk_head {pre t q:Str} {b c:UInt8} (hl:(pre++b::q).length≤100000000) (ht:t.length≤999) (h:b≠c):F_2 (gp pre (b::q)) (c::t)=some (false,gp pre (b::q)):=tk_no hl (by simp;omega) (by
 show (b::q).take _≠_
 intro e
 have:=congrArg List.head? e
 simp at this
 exact h this)
theorem getD_pre (pre w q:Str) (n:Nat) (h:n<w.length):(pre++(w++q)).getD (pre.length+n) 0=w.getD n 0:=by
 rw [List.getD_eq_getElem?_getD,List.getD_eq_getElem?_getD,List.getElem?_append_right (by omega),Nat.add_sub_cancel_left,List.getElem?_append_left h]
theorem getD_end (pre w q:Str) (b:UInt8):(pre++(w++b::q)).getD (pre.length+w.length) 0=b:=by
 rw [List.getD_eq_getElem?_getD,List.getElem?_append_right (by omega),Nat.add_sub_cancel_left,List.getElem?_append_right (by omega),Nat.sub_self];rfl
def isW (c:UInt8):Prop:=c.toNat≠32∧c.toNat≠34∧c.toNat≠40∧c.toNat≠41
def endw (q:Str):Prop:=q=[]∨∃b t,q=b::t∧(b=32∨b=34∨b=40∨b=41)
theorem endn.w {q:Str} (h:endn q):endw q:=by
 rcases h with h|⟨b,t,e,h⟩
 ·exact .inl h
 ·exact .inr ⟨b,t,e,by rcases h with h|h<;>simp [h]⟩
theorem wd_back {pre w q:Str} (hl:(pre++(w++q)).length≤100000000) (hw:∀c∈w,isW c) (hq:endw q):F_15 (gp pre (w++q))=some (w,gp (pre++w) q):=by
 simp only [List.length_append] at hl
 refine Ok.eq ?_
 unfold F_15
 refine Ok.bind (Ok.loop (Q:=fun y:Gparser=>y=gp (pre++w) q) (fun y:Gparser=>∃n:Nat,n≤w.length∧y=Gparser.mk (pre++(w++q)) ((pre.length+n:Nat):Int) true) (fun y=>(pre.length+w.length - y.at_).toNat) (fun y hy=>?_) _ ⟨0,by omega,rfl⟩) fun y hy=>?_
 ·obtain ⟨n,hn,rfl⟩:=hy
  unfold F_2g
  dsimp only
  rw [Int.toNat_natCast]
  by_cases c:n<w.length
  ·rw [getD_pre pre w q n c]
   have hm:=hw (w.getD n 0) (by rw [List.getD_eq_getElem?_getD,List.getElem?_eq_getElem c];exact List.getElem_mem c)
   obtain ⟨m1,m2,m3,m4⟩:=hm
   have hi:inb ((pre.length+n:Nat):Int) (pre++(w++q)).length=true:=inb_iff.2 ⟨by omega,by simp only [List.length_append];omega⟩
   refine Ok.ite (fun _=>?_) fun f=>by
    have:=of_decide_eq_false f
    simp only [List.length_append] at this;omega
   refine Ok.chk hi (Ok.ite (fun _=>Ok.chk hi (Ok.ite (fun _=>Ok.chk hi (Ok.ite (fun _=>Ok.chk hi (Ok.ite (fun _=>Ok.chk (in64_s (by omega) (by omega)) (Ok.ret ⟨⟨n+1,by omega,by congr 1⟩,by dsimp only;omega⟩)) fun f=>?_)) fun f=>?_)) fun f=>?_)) fun f=>?_)
   ·rw [Bool.not_eq_false',decide_eq_true_eq] at f;omega
   ·rw [Bool.not_eq_false',decide_eq_true_eq] at f;omega
   ·rw [Bool.not_eq_false',decide_eq_true_eq] at f;omega
   ·rw [Bool.not_eq_false',decide_eq_true_eq] at f;omega
  ·obtain rfl:n=w.length:=by omega
   have hx:∀{m:Int},m=((pre.length+w.length:Nat):Int)→Gparser.mk (pre++(w++q)) m true=gp (pre++w) q:=fun h=>gp_eq (by rw [h];omega)
   rcases hq with rfl|⟨b,t,rfl,hb⟩
   ·refine Ok.ite (fun f=>by
     have:=of_decide_eq_true f
     simp only [List.length_append,List.length_nil] at this;omega) fun _=>Ok.ret (hx rfl)
   ·rw [getD_end]
    have hi:inb ((pre.length+w.length:Nat):Int) (pre++(w++b::t)).length=true:=inb_iff.2 ⟨by omega,by simp only [List.length_append,List.length_cons];omega⟩
    have ex:=fun {Q:Fl Gparser Gparser→Prop} (h:Q (.ex (gp (pre++w) (b::t))))=>(Ok.ret (x:=Fl.ex (Gparser.mk (pre++(w++b::t)) ((pre.length+w.length:Nat):Int) true)) (by rw [hx rfl];exact h):Ok _ Q)
    refine Ok.ite (fun _=>Ok.chk hi (Ok.ite (fun f1=>Ok.chk hi (Ok.ite (fun f2=>Ok.chk hi (Ok.ite (fun f3=>Ok.chk hi (Ok.ite (fun f4=>?_) fun _=>ex rfl)) fun _=>ex rfl)) fun _=>ex rfl)) fun _=>ex rfl)) fun _=>ex rfl
    rcases hb with rfl|rfl|rfl|rfl
    ·simp at f1
    ·simp at f2
    ·simp at f3
    ·simp at f4
 ·subst hy
  unfold gp
  dsimp only
  refine Ok.chk (inc_iff.2 ⟨by omega,by simp only [List.length_append];omega,by simp only [List.length_append];omega⟩) (Ok.ret ?_)
  rw [Int.toNat_natCast,Int.toNat_natCast,List.take_left,List.drop_left]
theorem qt_back {pre w q:Str} (hl:(pre++(34::(w++34::q))).length≤100000000) (hw:∀c∈w,c.toNat≠34):F_1g (gp pre (34::(w++34::q)))=some (w,gp (pre++(34::(w++[34]))) q):=by
 simp only [List.length_append,List.length_cons] at hl
 refine Ok.eq ?_
 unfold F_1g
 have e1:F_2 (gp pre (34::(w++34::q))) [34]=some (true,gp (pre++[34]) (w++34::q)):=tk_yes (t:=[34]) (q:=w++34::q) (by simp only [List.length_append,List.length_cons,List.length_nil];omega)
 generalize hp:pre++[34]=P at e1
 have hP:P.length=pre.length+1:=by rw [←hp];simp
 refine Ok.jn (P:=fun j=>j=(true,gp P (w++34::q))) (Ok.ite (fun _=>by rw [e1,Option.bind_some];exact Ok.ret rfl) fun f=>by cases f) fun j hj=>?_
 subst hj
 refine Ok.bind (Ok.loop (Q:=fun y:Gparser=>y=gp (P++w) (34::q)) (fun y:Gparser=>∃n:Nat,n≤w.length∧y=Gparser.mk (P++(w++34::q)) ((P.length+n:Nat):Int) true) (fun y=>(P.length+w.length - y.at_).toNat) (fun y hy=>?_) _ ⟨0,by omega,rfl⟩) fun y hy=>?_
 ·obtain ⟨n,hn,rfl⟩:=hy
  unfold F_2h
  dsimp only
  rw [Int.toNat_natCast]
  by_cases c:n<w.length
  ·rw [getD_pre P w _ n c]
   have hm:=hw (w.getD n 0) (by rw [List.getD_eq_getElem?_getD,List.getElem?_eq_getElem c];exact List.getElem_mem c)
   refine Ok.ite (fun _=>?_) fun f=>by
    have:=of_decide_eq_false f
    simp only [List.length_append] at this;omega
   refine Ok.chk (inb_iff.2 ⟨by omega,by simp only [List.length_append,List.length_cons];omega⟩) (Ok.ite (fun _=>Ok.chk (in64_s (by omega) (by omega)) (Ok.ret ⟨⟨n+1,by omega,by congr 1⟩,by dsimp only;omega⟩)) fun f=>?_)
   rw [Bool.not_eq_false',decide_eq_true_eq] at f;omega
  ·obtain rfl:n=w.length:=by omega
   rw [getD_end]
   refine Ok.ite (fun _=>?_) fun f=>by
    have:=of_decide_eq_false f
    simp only [List.length_append,List.length_cons] at this;omega
   refine Ok.chk (inb_iff.2 ⟨by omega,by simp only [List.length_append,List.length_cons];omega⟩) (Ok.ite (fun f=>by simp at f) fun _=>Ok.ret (gp_eq (by omega)))
 ·subst hy
  have e2:F_2 (gp (P++w) (34::q)) [34]=some (true,gp ((P++w)++[34]) q):=tk_yes (t:=[34]) (q:=q) (by simp only [List.length_append,List.length_cons,List.length_nil];omega)
  refine Ok.chk (inc_iff.2 ⟨by show (0:Int)≤(P.length:Int);omega,by show (P.length:Int)≤((P++w).length:Int);simp only [List.length_append];omega,by show ((P++w).length:Int)≤(((P++w)++34::q).length:Int);simp only [List.length_append];omega⟩) (Ok.jn (P:=fun j=>j=(true,gp ((P++w)++[34]) q)) (Ok.ite (fun _=>by rw [e2,Option.bind_some];exact Ok.ret rfl) fun f=>by cases f) fun j hj=>?_)
  subst hj
  refine Ok.ret ?_
  have e3:(((gp (P++w) (34::q)).s_.take (gp (P++w) (34::q)).at_.toNat).drop (gp P (w++34::q)).at_.toNat)=w:=by
   unfold gp
   dsimp only
   rw [Int.toNat_natCast,Int.toNat_natCast,List.take_left,List.drop_left]
  rw [e3]
  have e4:(P++w)++[34]=pre++(34::(w++[34])):=by rw [←hp];simp
  rw [e4];rfl
end Go.Ab
namespace Go.Ab
open Go.Proofs
def dval (l:Str):Nat:=l.foldl (fun v c=>10*v+(c.toNat - 48)) 0
theorem dval_snoc (l:Str) (c:UInt8):dval (l++[c])=10*dval l+(c.toNat - 48):=by
 unfold dval;rw [List.foldl_append];rfl
theorem dfold_le:∀(l:Str) (v:Nat),v≤l.foldl (fun v c=>10*v+(c.toNat - 48)) v
 | [],v=>Nat.le_refl _
 | c::r,v=>Nat.le_trans (by omega) (dfold_le r (10*v+(c.toNat - 48)))
theorem dval_take (l:Str) (n:Nat):dval (l.take n)≤dval l:=by
 conv=>rhs;rw [←List.take_append_drop n l]
 unfold dval
 rw [List.foldl_append]
 exact dfold_le _ _
theorem dval_dec (u:Nat):dval (Lib.decDigits u)=u:=by
 induction u using Nat.strongRecOn with
 | _ u ih =>
  rw [Lib.decDigits]
  split
  ·rename_i h
   show 10*0+((UInt8.ofNat (48+u)).toNat - 48)=u
   have:(UInt8.ofNat (48+u)).toNat=48+u:=by simp;omega
   omega
  ·rename_i h
   rw [dval_snoc,ih (u / 10) (by omega)]
   have:(UInt8.ofNat (48+u % 10)).toNat=48+u % 10:=by simp;omega
   omega
theorem u8_sub {c:UInt8} (h:48≤c.toNat):((u8 ((c.toNat:Int) - 48)).toNat:Int)=((c.toNat - 48:Nat):Int):=by
 have:=c.toNat_lt
 unfold u8
 have e:(((c.toNat:Int) - 48) % 256).toNat=c.toNat - 48:=by omega
 rw [e]
 have:(UInt8.ofNat (c.toNat - 48)).toNat=c.toNat - 48:=by simp;omega
 rw [this]
theorem nb_back {pre q:Str} {u:Nat} (hu:u<18446744073709551616) (hq:endn q) (hl:(pre++(Lib.decDigits u++q)).length≤100000000):F_18 (gp pre (Lib.decDigits u++q))=some ((u:Int),gp (pre++Lib.decDigits u) q):=by
 have hb:=dig_bounds u
 have h20:=dec_len hu
 have hne:=dec_ne u
 have hv:=dval_dec u
 generalize Lib.decDigits u=w at hb h20 hne hv hl
 have hw1:1≤w.length:=by cases w with|nil=>exact absurd rfl hne|cons _ _=>simp
 refine Ok.eq ?_
 unfold F_18
 rw [wd_back hl (fun c hc=>by have:=hb c hc;exact ⟨by omega,by omega,by omega,by omega⟩) hq.w,Option.bind_some]
 refine Ok.grp (Ok.grp ?_)
 have eg:Gparser.mk (gp (pre++w) q).s_ (gp (pre++w) q).at_ (((gp (pre++w) q).ok_&&decide (1≤(w.length:Int)))&&decide ((w.length:Int)≤20))=gp (pre++w) q:=by
  rw [decide_eq_true (by omega:(1:Int)≤w.length),decide_eq_true (by omega:(w.length:Int)≤20)];rfl
 dsimp only
 rw [eg]
 refine Ok.bind (Ok.loop (Q:=fun r:Int×Gparser=>r=((u:Int),gp (pre++w) q)) (fun x:Int×Int×Gparser=>∃n:Nat,n≤w.length∧x=(((dval (w.take n):Nat):Int),(n:Int),gp (pre++w) q)) (fun x=>(w.length - x.2.1).toNat) (fun x hx=>?_) _ ⟨0,by omega,rfl⟩) fun r hr=>Ok.ret hr
 obtain ⟨n,hn,rfl⟩:=hx
 unfold F_2i
 dsimp only
 rw [Int.toNat_natCast]
 refine Ok.ite (fun c=>?_) fun c=>?_
 ·have c:n<w.length:=by have:=of_decide_eq_true c;omega
  have hi:inb (n:Int) w.length=true:=inb_iff.2 ⟨by omega,by omega⟩
  have hm:=hb (w.getD n 0) (by rw [List.getD_eq_getElem?_getD,List.getElem?_eq_getElem c];exact List.getElem_mem c)
  have ht:w.take (n+1)=w.take n++[w.getD n 0]:=by
   rw [List.take_add_one,List.getD_eq_getElem?_getD,List.getElem?_eq_getElem c];rfl
  have hd:=dval_take w (n+1)
  rw [ht,dval_snoc,hv] at hd
  refine Ok.jn (P:=fun b=>b=true) (Ok.ite (fun _=>Ok.chk hi (Ok.ret (decide_eq_true (by omega)))) fun f=>by cases f) fun b hb=>?_
  subst hb
  refine Ok.jn (P:=fun b=>b=true) (Ok.ite (fun _=>Ok.chk hi (Ok.ret (decide_eq_true (by omega)))) fun f=>by cases f) fun b hb=>?_
  subst hb
  refine Ok.chk hi (Ok.chk (rngb_u8 _) (Ok.chk (in64_s (by omega) (by omega)) (Ok.ret ⟨⟨n+1,by omega,?_⟩,by dsimp only;omega⟩)))
  rw [u8_sub hm.1,ht,dval_snoc,IntKind.wrap_u64,IntKind.wrap_u64]
  have e1:((((dval (w.take n):Nat):Int)*10) % 18446744073709551616+(((w.getD n 0).toNat - 48:Nat):Int)) % 18446744073709551616=((10*dval (w.take n)+((w.getD n 0).toNat - 48):Nat):Int):=by omega
  refine Prod.ext ?_ (Prod.ext (by simp) rfl)
  exact e1
 ·have c:n=w.length:=by have:=of_decide_eq_false c;omega
  subst c
  rw [List.take_length,hv]
  exact Ok.ret rfl
theorem words_w:∀i,i<12→∀c∈words12.getD i default,c.toNat≠32∧c.toNat≠34∧c.toNat≠40∧c.toNat≠41:=by decide
theorem wd_w {o:Int} (h0:0≤o) (h1:o<12):∀c∈wd o,isW c:=words_w _ (by omega)
end Go.Ab
namespace Go.Ab
open Go.Proofs
noncomputable def clR (n:Nat) (deep_:Int) (x242:Int×(List GTerm)×Gparser):Option (Fl (Int×(List GTerm)×Gparser) (Int×(List GTerm)×Gparser)):=(bif x242.2.2.ok_ then (F_2 x242.2.2 [41]).bind fun y264=>bif (!y264.1) then jn (α:=Gparser×Int) (grp ((decide (x242.1=0)||decide (x242.1=10))) fun b281=>jn (α:=Bool×Gparser) (bif b281 then (F_2 y264.2 [32,97,110,100,32]).bind fun y283=>some (y283.1,y283.2) else some (false,y264.2)) fun j284=>bif j284.1 then some (j284.2,10) else grp ((decide (x242.1=0)||decide (x242.1=11))) fun b288=>jn (α:=Bool×Gparser) (bif b288 then (F_2 j284.2 [32,111,114,32]).bind fun y290=>some (y290.1,y290.2) else some (false,j284.2)) fun j291=>bif j291.1 then some (j291.2,11) else some ((Gparser.mk j291.2.s_ j291.2.at_ false),x242.1)) fun j277=>chk (in64 (deep_ - 1)) ((FR_1 n j277.1 (deep_ - 1)).bind fun y292=>chk (room (x242.2.1.length+[y292.1].length) 64) (some (.nx (j277.2,(x242.2.1++[y292.1]),y292.2)))) else some (.ex (x242.1,x242.2.1,y264.2)) else some (.ex (x242.1,x242.2.1,x242.2.2)))
theorem sep10:sepT 10=[32,97,110,100,32]:=rfl
theorem sep11:sepT 11=[32,111,114,32]:=rfl
theorem clr_loop {n:Nat} {d o:Int} {q:Str} (ho:o=10∨o=11) (hd:1≤d) (hd2:d≤100):∀(l pk:List GTerm) (pre:Str) (p:Int),(p=o∨(p=0∧l≠[]))→(pre++(Lib.joinTail (sepT o) (l.map GTerm.txt)++41::q)).length≤1000000→(∀k∈l,∀pre' q',endn q'→(pre'++(k.txt++q')).length≤1000000→FR_1 n (gp pre' (k.txt++q')) (d - 1)=some (k,gp (pre'++k.txt) q'))→pk.length+l.length≤1001→loop (clR n d) (p,pk,gp pre (Lib.joinTail (sepT o) (l.map GTerm.txt)++41::q))=some (o,pk++l,gp (pre++(Lib.joinTail (sepT o) (l.map GTerm.txt)++[41])) q)
 | [],pk,pre,p,hp,hlen,h,hl=>by
  have hp:p=o:=by rcases hp with hp|⟨_,hp⟩;exact hp;exact absurd rfl hp
  subst hp
  rw [loop_eq]
  have:clR n d (p,pk,gp pre (41::q))=some (.ex (p,pk,gp (pre++[41]) q)):=by
   refine Ok.eq ?_
   unfold clR
   refine Ok.ite (fun _=>?_) fun f=>by cases f
   dsimp only
   rw [show (41::q:Str)=[41]++q from rfl,tk_yes (by simpa [Lib.joinTail] using Nat.le_trans hlen (by decide)),Option.bind_some]
   exact Ok.ite (fun f=>by cases f) fun _=>Ok.ret rfl
  show ((clR n d (p,pk,gp pre (41::q))).bind _)=_
  rw [this,List.append_nil];rfl
 | k :: l,pk,pre,p,hp,hlen,h,hl=>by
  simp only [List.length_cons] at hl
  have e:Lib.joinTail (sepT o) ((k::l).map GTerm.txt)++41::q=sepT o++(k.txt++(Lib.joinTail (sepT o) (l.map GTerm.txt)++41::q)):=by simp [Lib.joinTail]
  have e':Lib.joinTail (sepT o) ((k::l).map GTerm.txt)++[41]=sepT o++(k.txt++(Lib.joinTail (sepT o) (l.map GTerm.txt)++[41])):=by simp [Lib.joinTail]
  have en:endn (Lib.joinTail (sepT o) (l.map GTerm.txt)++41::q):=.inr (tail_head o l q)
  rw [e] at hlen
  rw [e,e',loop_eq]
  generalize hR:k.txt++(Lib.joinTail (sepT o) (l.map GTerm.txt)++41::q)=R at hlen
  have hlen2:((pre++sepT o)++R).length≤1000000:=by rw [List.append_assoc];exact hlen
  have hlen3:(((pre++sepT o)++k.txt)++(Lib.joinTail (sepT o) (l.map GTerm.txt)++41::q)).length≤1000000:=by rw [List.append_assoc (pre++sepT o),hR];exact hlen2
  have ht:=h k (by simp) (pre++sepT o) _ en (by rw [hR];exact hlen2)
  rw [hR] at ht
  have ty:F_2 (gp pre (sepT o++R)) (sepT o)=some (true,gp (pre++sepT o) R):=tk_yes (by omega)
  have : clR n d (p,pk,gp pre (sepT o++R))=some (.nx (o,pk++[k],gp ((pre++sepT o)++k.txt) (Lib.joinTail (sepT o) (l.map GTerm.txt)++41::q))):=by
   refine Ok.eq ?_
   unfold clR
   refine Ok.ite (fun _=>?_) fun f=>by cases f
   have hno:F_2 (gp pre (sepT o++R)) [41]=some (false,gp pre (sepT o++R)):=by
    have:sepT o++R=32::(wd o++[32]++R):=by simp [sepT]
    rw [this] at hlen ⊢
    exact tk_head (by omega) (by simp) (by decide)
   dsimp only
   rw [hno,Option.bind_some]
   refine Ok.ite (fun _=>?_) fun f=>by cases f
   refine Ok.jn (P:=fun j=>j=(gp (pre++sepT o) R,o)) (Ok.grp ?_) fun j hj=>?_
   ·rcases ho with rfl|rfl
    ·refine Ok.jn (P:=fun j=>j=(true,gp (pre++sepT 10) R)) (Ok.ite (fun _=>?_) fun f=>?_) fun j hj=>?_
     ·dsimp only
      rw [←sep10,ty,Option.bind_some];exact Ok.ret rfl
     ·simp at f;omega
     ·subst hj
      exact Ok.ite (fun _=>Ok.ret rfl) fun f=>by cases f
    ·refine Ok.jn (P:=fun j=>j=(false,gp pre (sepT 11++R))) (Ok.ite (fun _=>?_) fun f=>Ok.ret rfl) fun j hj=>?_
     ·dsimp only
      rw [tk_no (by omega) (by simp) (by rw [sep11];simp),Option.bind_some];exact Ok.ret rfl
     ·subst hj
      refine Ok.ite (fun f=>by cases f) fun _=>Ok.grp (Ok.jn (P:=fun j=>j=(true,gp (pre++sepT 11) R)) (Ok.ite (fun _=>?_) fun f=>?_) fun j hj=>?_)
      ·dsimp only
       rw [←sep11,ty,Option.bind_some];exact Ok.ret rfl
      ·simp at f;omega
      ·subst hj
       exact Ok.ite (fun _=>Ok.ret rfl) fun f=>by cases f
   ·subst hj
    refine Ok.chk (in64_s (by omega) (by omega)) ?_
    dsimp only
    rw [ht,Option.bind_some]
    exact Ok.chk (room_s (by simp;omega)) (Ok.ret rfl)
  rw [this,Option.bind_some]
  have:=clr_loop (n:=n) (q:=q) ho hd hd2 l (pk++[k]) ((pre++sepT o)++k.txt) o (.inl rfl) hlen3 (fun a ha=>h a (by simp [ha])) (by simp;omega)
  rw [show pk++k::l=pk++[k]++l by simp,show pre++(sepT o++(k.txt++(Lib.joinTail (sepT o) (l.map GTerm.txt)++[41])))=((pre++sepT o)++k.txt)++(Lib.joinTail (sepT o) (l.map GTerm.txt)++[41]) by simp]
  exact this
end Go.Ab
namespace Go.Ab
open Go.Proofs
theorem rhead {x:GTerm} (ho:1≤x.Op∧x.Op≤8) (h:Rgt x):∃R,x.txt=wd x.Op++32::R∧((x.Op≤3∧R=34::(x.Text++[34]))∨(x.Op=7∧R=Lib.decDigits x.Print.toNat)∨(3<x.Op∧x.Op≠7∧R=Lib.itoa x.Number)):=by
 have htx:=txt_eq x
 by_cases c:x.Op=1∨x.Op=2∨x.Op=3
 ·rw [if_pos c] at htx
  exact ⟨_,by rw [htx];simp,.inl ⟨by omega,rfl⟩⟩
 ·rw [if_neg c] at htx
  by_cases c7:x.Op=7
  ·rw [if_pos c7] at htx
   exact ⟨_,by rw [htx];simp,.inr (.inl ⟨c7,rfl⟩)⟩
  ·rw [if_neg c7,if_neg (by omega),if_neg (by omega)] at htx
   exact ⟨_,by rw [htx];simp,.inr (.inr ⟨by omega,c7,rfl⟩)⟩
theorem term_back:∀(x:GTerm) (m:Nat) (d:Int) (pre q:Str),x.hgt≤m→Rgt x→Wf x→x.cnt≤1000→(x.hgt:Int)≤d→d≤21→endn q→(pre++(x.txt++q)).length≤1000000→FR_1 m (gp pre (x.txt++q)) d=some (x,gp (pre++x.txt) q):=by
 refine GTerm.ind fun x ih m d pre q hm hx hw hc hd hd2 hq hl=>?_
 have hp:=hgt_pos x
 obtain ⟨m,rfl⟩:∃n,m=n+1:=⟨m - 1,by omega⟩
 have ihk:∀k∈x.Kids,∀pre' q',endn q'→(pre'++(k.txt++q')).length≤1000000→FR_1 m (gp pre' (k.txt++q')) (d - 1)=some (k,gp (pre'++k.txt) q'):=fun k hk pre' q' h1 h2=>ih k hk m (d - 1) pre' q' (by have:=kid_hgt hk;omega) (hx.kid hk) (hw.kid hk) (by have:=kid_cnt hk;omega) (by have:=kid_hgt hk;omega) (by omega) h1 h2
 have htx:=txt_eq x
 have hkc:=kids_cnt x
 refine Ok.eq ?_
 rw [FR_1]
 have hok:∀a b,(gp a b).ok_=true:=fun _ _=>rfl
 refine Ok.grp (Ok.ite (fun f=>by
  rw [hok,Bool.not_true,Bool.or_false,decide_eq_true_eq] at f;omega) fun _=>?_)
 rcases hx.ok with h|h|h|⟨h,h1,h2,h3,h4⟩
 rotate_left 3
 ·rcases h4 with ⟨h9,h4⟩|⟨h9,h4⟩
  ·rw [if_neg (by omega),if_neg (by omega),if_pos h9] at htx
   obtain ⟨k,hk⟩:=List.length_eq_one_iff.1 h4
   have hx2:x=GTerm.mk 9 [] 0 0 [k]:=by
    cases x
    dsimp only at h9 h1 h2 h3 hk
    subst h9 h1 h2 h3 hk
    rfl
   rw [hk] at htx
   have e:x.txt++q=[110,111,116,32,40]++(k.txt++41::q):=by rw [htx];simp
   have e':pre++x.txt=((pre++[110,111,116,32,40])++k.txt)++[41]:=by rw [htx];simp
   rw [e'] 
   rw [e] at hl ⊢
   have hl2:((pre++[110,111,116,32,40])++(k.txt++41::q)).length≤1000000:=by rw [List.append_assoc];exact hl
   have hl3:(((pre++[110,111,116,32,40])++k.txt)++([41]++q)).length≤1000000:=by rw [List.append_assoc (pre++[110,111,116,32,40])];exact hl2
   rw [tk_yes (by omega),Option.bind_some]
   refine Ok.ite (fun _=>Ok.chk (in64_s (by omega) (by omega)) ?_) fun f=>by cases f
   dsimp only
   rw [ihk k (by rw [hk];simp) _ _ (.inr ⟨41,q,rfl,.inl rfl⟩) hl2,Option.bind_some]
   refine Ok.jn (P:=fun j=>j=(true,gp (((pre++[110,111,116,32,40])++k.txt)++[41]) q)) (Ok.ite (fun _=>?_) fun f=>by cases f) fun j hj=>?_
   ·dsimp only
    rw [show (41::q:Str)=[41]++q from rfl,tk_yes (by omega),Option.bind_some];exact Ok.ret rfl
   ·subst hj
    exact Ok.ret (by rw [hx2];rfl)
  ·have ho:x.Op=10∨x.Op=11:=by omega
   rw [if_neg (by omega),if_neg (by omega),if_neg (by omega),if_pos ho] at htx
   rcases hkk:x.Kids with _|⟨k,l⟩
   ·rw [hkk] at h4;simp at h4
   have hx2:x=GTerm.mk x.Op [] 0 0 (k::l):=by
    cases x
    dsimp only at h1 h2 h3 hkk
    subst h1 h2 h3 hkk
    rfl
   have hmem:∀a∈k::l,a∈x.Kids:=fun a ha=>by rw [hkk];exact ha
   rw [hkk,List.map_cons,Lib.join_cons] at htx
   have e:x.txt++q=[40]++(k.txt++(Lib.joinTail (sepT x.Op) (l.map GTerm.txt)++41::q)):=by rw [htx];simp [sepT]
   have e':pre++x.txt=((pre++[40])++k.txt)++(Lib.joinTail (sepT x.Op) (l.map GTerm.txt)++[41]):=by rw [htx];simp [sepT]
   rw [e']
   rw [e] at hl ⊢
   have hl2:((pre++[40])++(k.txt++(Lib.joinTail (sepT x.Op) (l.map GTerm.txt)++41::q))).length≤1000000:=by rw [List.append_assoc];exact hl
   have hl3:(((pre++[40])++k.txt)++(Lib.joinTail (sepT x.Op) (l.map GTerm.txt)++41::q)).length≤1000000:=by rw [List.append_assoc (pre++[40])];exact hl2
   have hno:F_2 (gp pre ([40]++(k.txt++(Lib.joinTail (sepT x.Op) (l.map GTerm.txt)++41::q)))) [110,111,116,32,40]=some (false,gp pre ([40]++(k.txt++(Lib.joinTail (sepT x.Op) (l.map GTerm.txt)++41::q)))):=tk_head (by
     have:([40]++(k.txt++(Lib.joinTail (sepT x.Op) (l.map GTerm.txt)++41::q)):Str)=40::(k.txt++(Lib.joinTail (sepT x.Op) (l.map GTerm.txt)++41::q)):=rfl
     rw [this] at hl
     exact Nat.le_trans hl (by decide)) (by simp) (by decide)
   rw [hno,Option.bind_some]
   refine Ok.ite (fun f=>by cases f) fun _=>?_
   dsimp only
   rw [tk_yes (by omega),Option.bind_some]
   refine Ok.ite (fun _=>Ok.chk (in64_s (by omega) (by omega)) ?_) fun f=>by cases f
   dsimp only
   rw [ihk k (hmem k (by simp)) _ _ (.inr (tail_head x.Op l q)) hl2,Option.bind_some]
   show Ok ((loop (clR m d) (0,[k],gp ((pre++[40])++k.txt) (Lib.joinTail (sepT x.Op) (l.map GTerm.txt)++41::q))).bind _) _
   have hk1000:(k::l).length≤1000:=by rw [←hkk];omega
   have hln:l≠[]:=by
    intro f
    rw [hkk,f] at h4;simp at h4
   rw [clr_loop ho (by omega) (by omega) l [k] _ 0 (.inr ⟨rfl,hln⟩) hl3 (fun a ha=>ihk a (hmem a (by simp [ha]))) (by simp at hk1000 ⊢;omega),Option.bind_some]
   exact Ok.ret (by rw [hx2];rfl)
 all_goals
  have ho:1≤x.Op∧x.Op≤8:=by first|(have:=h.1;omega)|omega
  obtain ⟨b,t,hb,b1,b2⟩:=wd_head x.Op.toNat (by omega) (by omega)
  obtain ⟨R,hR,hRc⟩:=rhead ho hx
  have hwd:wd x.Op=b::t:=hb
  have hwl:=wd_len x.Op
  have hT:x.txt++q=b::(t++32::(R++q)):=by rw [hR,hwd];simp
  have hl':(pre++b::(t++32::(R++q))).length≤1000000:=by rw [←hT];exact hl
  rw [hT,tk_head (by omega) (by simp) b1,Option.bind_some]
  refine Ok.ite (fun f=>by cases f) fun _=>?_
  dsimp only
  rw [tk_head (by omega) (by simp) b2,Option.bind_some]
  refine Ok.ite (fun f=>by cases f) fun _=>?_
  dsimp only
  have hT2:b::(t++32::(R++q))=wd x.Op++32::(R++q):=by rw [hwd];simp
  rw [hT2] at hl' ⊢
  have hl4:((pre++wd x.Op)++([32]++(R++q))).length≤1000000:=by rw [List.append_assoc];exact hl'
  have hl5:(((pre++wd x.Op)++[32])++(R++q)).length≤1000000:=by rw [List.append_assoc (pre++wd x.Op)];exact hl4
  rw [wd_back (by omega) (wd_w (by omega) (by omega)) (.inr ⟨32,_,rfl,.inl rfl⟩),Option.bind_some,show F_17=some words12 from rfl,Option.bind_some]
  refine Ok.jn (P:=fun j=>j=(true,gp ((pre++wd x.Op)++[32]) (R++q))) (Ok.ite (fun _=>?_) fun f=>by cases f) fun j hj=>?_
  ·dsimp only
   rw [show (32::(R++q):Str)=[32]++(R++q) from rfl,tk_yes (by omega),Option.bind_some];exact Ok.ret rfl
  subst hj
  have eg:Gparser.mk (gp ((pre++wd x.Op)++[32]) (R++q)).s_ (gp ((pre++wd x.Op)++[32]) (R++q)).at_ true=gp ((pre++wd x.Op)++[32]) (R++q):=rfl
  dsimp only
  rw [eg]
  have epre:pre++x.txt=((pre++wd x.Op)++[32])++R:=by rw [hR];simp
  rw [epre]
  generalize (pre++wd x.Op)++[32]=P at hl5 ⊢
  refine Ok.bind (Ok.loop (Q:=fun o:Sum Unit (GTerm×Gparser)=>o=.inr (x,gp (P++R) q)) (fun i:Int=>1≤i∧i≤x.Op) (fun i=>(9 - i).toNat) (fun i hi=>?_) _ ⟨by omega,ho.1⟩) fun o ho=>by subst ho;exact Ok.ret rfl
  refine Ok.ite (fun _=>Ok.chk (inb_iff.2 ⟨by omega,by show i<12;omega⟩) (Ok.ite (fun f=>Ok.chk (in64_s (by omega) (by omega)) (Ok.ret ⟨⟨by omega,?_⟩,by omega⟩)) fun f=>?_)) fun f=>by have:=of_decide_eq_false f;omega
  ·have:i≠x.Op:=by
    rintro rfl
    simp [wd] at f
   omega
  have ei:i=x.Op:=by
   have f:words12.getD i.toNat default=words12.getD x.Op.toNat default:=by simpa [wd] using f
   have:=words_inj _ (by omega) _ (by omega) f
   omega
  subst ei
  rcases hRc with ⟨r1,r2⟩|⟨r1,r2⟩|⟨r1,r3,r2⟩
 ·have hx2:x=GTerm.mk x.Op x.Text 0 0 []:=by
   obtain ⟨_,_,h2,h3,h4⟩:=h
   cases x
   dsimp only at h2 h3 h4
   subst h2 h3 h4
   rfl
  have h1:=h.2.1
  refine Ok.ite (fun _=>?_) fun f=>by have:=of_decide_eq_false f;omega
  rw [r2] at hl5 ⊢
  have e34:(34::(x.Text++[34]):Str)++q=34::(x.Text++34::q):=by simp
  rw [e34] at hl5 ⊢
  rw [qt_back (by omega) fun c hc=>(h1.1 c hc).2.2,Option.bind_some]
  exact Ok.ret (by rw [←hx2];rfl)
 ·have:=h.1;omega
 ·have:=h.1;omega
 ·have:=h.1;omega
 ·have:=h.1;omega
 ·have hx2:x=GTerm.mk x.Op [] x.Number 0 []:=by
   obtain ⟨_,h1,_,_,h4,h5⟩:=h
   cases x
   dsimp only at h1 h4 h5
   subst h1 h4 h5
   rfl
  obtain ⟨u,hu⟩:=Int.eq_ofNat_of_zero_le h.2.2.1
  have hu2:(u:Int)≤1099511627776:=by rw [←hu];exact h.2.2.2.1
  refine Ok.ite (fun f=>by have:=of_decide_eq_true f;omega) fun _=>Ok.ite (fun f=>by have:=of_decide_eq_true f;omega) fun _=>?_
  rw [hu,Lib.itoa_nonneg] at r2
  rw [r2] at hl5 ⊢
  rw [nb_back (by omega) hq (by omega),Option.bind_some]
  refine Ok.grp (Ok.ret ?_)
  have e1:((u:Int) % 2^62)=u:=by omega
  have e2:IntKind.wrap .i64 (u:Int)=u:=by rw [IntKind.wrap_i64];omega
  have e3:decide ((u:Int)≤1099511627776)=true:=decide_eq_true hu2
  dsimp only
  rw [e1,e2,e3,←hu,←hx2];rfl
 ·omega
 ·have hx2:x=GTerm.mk x.Op [] 0 x.Print []:=by
   obtain ⟨_,h1,h2,h3⟩:=h
   cases x
   dsimp only at h1 h2 h3
   subst h1 h2 h3
   rfl
  refine Ok.ite (fun f=>by have:=of_decide_eq_true f;omega) fun _=>Ok.ite (fun f=>?_) fun f=>by have:=of_decide_eq_false f;omega
  have hp0:=hw.p0;have hp1:=hw.p1
  rw [r2] at hl5 ⊢
  rw [nb_back (by omega) hq (by omega),Option.bind_some]
  refine Ok.ret ?_
  have e1:((x.Print.toNat:Nat):Int)=x.Print:=by omega
  dsimp only
  rw [e1,←hx2];rfl
 ·omega
theorem pterm_back {x:GTerm} {pre:Str} (h:PV x) (hw:Wf x) (hl:(pre++x.txt).length≤1000000):F_1 (gp pre x.txt) 21=some (x,gp (pre++x.txt) []):=lim_of ⟨x.hgt,fun m hm=>by
 have:=term_back x m 21 pre [] hm h.rgt hw (by have:=h.cnt;omega) (by have:=h.hgt;omega) (by omega) (.inl rfl) (by rw [List.append_nil];exact hl)
 rw [List.append_nil] at this
 exact this⟩
end Go.Ab
namespace Go.Ab
open Go.Proofs
def GRule.ln (r:GRule):Str:=r.Name++(vw r.Verdict++r.When.txt)
theorem line_ln (r:GRule):r.line=r.ln++[10]:=by simp [GRule.line,GRule.ln]
theorem ln_nl {r:GRule} (h1:nameP r.Name) (h2:Rgt r.When):∀c∈r.ln,c≠10:=by
 intro c hc
 rcases List.mem_append.1 hc with hc|hc
 ·exact (name_ne h1 c hc).2
 ·rcases List.mem_append.1 hc with hc|hc
  ·intro e;subst e
   unfold vw at hc
   split at hc<;>simp at hc
  ·intro e;subst e
   exact txt_nl _ h2 hc
theorem line_loop {n q:Str} (h:∀c∈n,c.toNat≠58) (hl:(n++58::q).length≤1000000):loop (F_28 (n++58::q)) 0=some (n.length:Int):=by
 refine Ok.eq (Ok.loop (Q:=fun r:Int=>r=n.length) (fun i:Int=>∃k:Nat,i=k∧k≤n.length) (fun i=>(n.length - i).toNat) (fun i hi=>?_) _ ⟨0,rfl,by omega⟩)
 obtain ⟨k,rfl,hk⟩:=hi
 unfold F_28
 rw [Int.toNat_natCast]
 simp only [List.length_append,List.length_cons] at hl
 have hi:inb (k:Int) (n++58::q).length=true:=inb_iff.2 ⟨by omega,by simp only [List.length_append,List.length_cons];omega⟩
 refine Ok.ite (fun _=>Ok.chk hi ?_) fun f=>by
  have:=of_decide_eq_false f
  simp only [List.length_append,List.length_cons] at this;omega
 by_cases c:k<n.length
 ·have e:(n++58::q).getD k 0=n.getD k 0:=by
   rw [List.getD_eq_getElem?_getD,List.getD_eq_getElem?_getD,List.getElem?_append_left c]
  have hm:=h (n.getD k 0) (by rw [List.getD_eq_getElem?_getD,List.getElem?_eq_getElem c];exact List.getElem_mem c)
  rw [e]
  refine Ok.ite (fun _=>Ok.chk (in64_s (by omega) (by omega)) (Ok.ret ⟨⟨k+1,by omega,by omega⟩,by omega⟩)) fun f=>?_
  rw [Bool.not_eq_false',decide_eq_true_eq] at f;omega
 ·obtain rfl:k=n.length:=by omega
  have e:(n++58::q).getD n.length 0=58:=by simp
  rw [e]
  exact Ok.ite (fun f=>by simp at f) fun _=>Ok.ret rfl
theorem line_back {r:GRule} (h1:nameP r.Name) (h2:PV r.When) (h3:r.Verdict=1∨r.Verdict=2) (hw:Wf r.When):F_1h r.ln=some (r,true):=by
 have hv:=vw_len r.Verdict
 have hn:=h1.2.2
 have ht:=txt_len r.When h2.rgt hw
 have hc:=h2.cnt
 obtain ⟨nm,wh,vd⟩:=r
 dsimp only at h1 h2 h3 hw hv hn ht hc
 have hvw:∃z:Str,vw vd=58::z:=by unfold vw;split<;>exact ⟨_,rfl⟩
 obtain ⟨z,hz⟩:=hvw
 have hzl:z.length≤10:=by rw [hz] at hv;simp at hv;omega
 have e1:(GRule.mk nm wh vd).ln=nm++58::(z++wh.txt):=by unfold GRule.ln;dsimp only;rw [hz];simp
 have e2:(GRule.mk nm wh vd).ln=nm++(vw vd++wh.txt):=rfl
 have e3:(nm++(vw vd++wh.txt)).take (((nm.length:Nat):Int)).toNat=nm:=by rw [Int.toNat_natCast,List.take_left]
 have hl:((nm++vw vd)++wh.txt).length≤1000000:=by simp only [List.length_append];omega
 have hl2:(nm++(vw vd++wh.txt)).length≤100000000:=by rw [←List.append_assoc];omega
 refine Ok.eq ?_
 unfold F_1h
 rw [e1,line_loop (fun c hc e=>(name_ne h1 c hc).1 (by
  have:=c.toNat_lt
  exact UInt8.toNat_inj.1 (by rw [e];rfl))) (by simp;omega),Option.bind_some,←e1,e2]
 have et:F_2 (gp nm (vw vd++wh.txt)) (vw vd)=some (true,gp (nm++vw vd) wh.txt):=tk_yes hl2
 refine Ok.chk (inc_iff.2 ⟨by omega,by omega,by simp only [List.length_append];omega⟩) (Ok.jn (P:=fun o=>o=.nx (gp (nm++vw vd) wh.txt,GRule.mk nm (GTerm.mk 0 [] 0 0 []) vd)) ?_ fun o ho=>?_)
 ·rw [e3]
  show Ok ((F_2 (gp nm (vw vd++wh.txt)) [58,32,114,101,97,108,32,105,102,32]).bind _) _
  rcases h3 with rfl|rfl
  ·have e4:vw 1=[58,32,114,101,97,108,32,105,102,32]:=rfl
   rw [←e4,et,Option.bind_some]
   exact Ok.ite (fun _=>Ok.ret rfl) fun f=>by cases f
  ·have e4:vw 2=[58,32,102,97,108,115,101,32,105,102,32]:=rfl
   rw [tk_no hl2 (by simp) (by rw [e4];simp),Option.bind_some]
   refine Ok.ite (fun f=>by cases f) fun _=>?_
   dsimp only
   rw [←e4,et,Option.bind_some]
   exact Ok.ite (fun _=>Ok.ret rfl) fun f=>by cases f
 ·subst ho
  show Ok ((F_1 (gp (nm++vw vd) wh.txt) 21).bind _) _
  rw [pterm_back h2 hw hl,Option.bind_some]
  refine Ok.ite (fun _=>Ok.ret ?_) fun f=>by cases f
  dsimp only
  rw [decide_eq_true (by unfold gp;dsimp only;simp)]
def glue (c:Str):List Str→List Str
 | []=>[c]
 | h::t=>(c++h)::t
def spl (b:UInt8):Str→List Str
 | []=>[[]]
 | c::r=>if c=b then []::spl b r else glue [c] (spl b r)
theorem spl_ne (b:UInt8):∀s,spl b s≠[]
 | []=>by simp [spl]
 | c::r=>by
  simp only [spl]
  split
  ·simp
  ·cases spl b r<;>simp [glue]
theorem glue_nil {l:List Str} (h:l≠[]):glue [] l=l:=by cases l with|nil=>exact absurd rfl h|cons a t=>simp [glue]
theorem glue_glue (a b:Str) (l:List Str):glue a (glue b l)=glue (a++b) l:=by cases l<;>simp [glue]
theorem spl_app {b:UInt8}:∀{w:Str} (r:Str),(∀c∈w,c≠b)→spl b (w++b::r)=w::spl b r
 | [],r,_=>by simp [spl]
 | c::w,r,h=>by
  have ih:=spl_app (b:=b) (w:=w) r fun k hk=>h k (by simp [hk])
  have hc:c≠b:=h c (by simp)
  simp only [List.cons_append,spl,if_neg hc,ih,glue,List.nil_append]
theorem spl_rtxt:∀{l:List GRule},(∀r∈l,∀c∈r.ln,c≠10)→spl 10 (rtxt l)=l.map GRule.ln++[[]]
 | [],_=>rfl
 | r::l,h=>by
  have e:rtxt (r::l)=r.ln++10::rtxt l:=by simp [rtxt,line_ln]
  rw [e,spl_app _ (h r (by simp)),spl_rtxt fun k hk=>h k (by simp [hk])]
  simp
theorem rcut_eq {s:Str} (b:UInt8) (hl:s.length≤65536):F_1f s b=some (spl b s):=by
 refine Ok.eq ?_
 unfold F_1f
 refine Ok.bind (Ok.loop (Q:=fun y:List Str=>y=spl b s) (fun x:Int×Int×List Str=>∃a i:Nat,x.1=a∧x.2.1=i∧a≤i∧i≤s.length+1∧x.2.2.length≤i∧((i≤s.length∧x.2.2++glue ((s.take i).drop a) (spl b (s.drop i))=spl b s)∨(i=s.length+1∧x.2.2=spl b s))) (fun x=>(s.length+1 - x.2.1).toNat) (fun x hx=>?_) _ ⟨0,0,rfl,rfl,by omega,by omega,by simp,.inl ⟨by omega,by simpa using glue_nil (spl_ne b s)⟩⟩) fun y hy=>Ok.ret hy
 obtain ⟨a',i',l⟩:=x
 obtain ⟨a,i,h1,h2,h3,h4,h5,h6⟩:=hx
 dsimp only at h1 h2 h5 h6
 subst h1 h2
 unfold F_2f
 dsimp only
 refine Ok.ite (fun d=>?_) fun d=>?_
 ·have d:(i:Int)≤s.length:=of_decide_eq_true d
  have h6:l++glue ((s.take i).drop a) (spl b (s.drop i))=spl b s:=by
   rcases h6 with h6|h6
   ·exact h6.2
   ·omega
  rw [Int.toNat_natCast,Int.toNat_natCast]
  refine Ok.jn (P:=fun j:Int×List Str=>∃a2:Nat,j.1=a2∧a2≤i+1∧j.2.length≤i+1∧((i+1≤s.length∧j.2++glue ((s.take (i+1)).drop a2) (spl b (s.drop (i+1)))=spl b s)∨(i+1=s.length+1∧j.2=spl b s))) (Ok.jn (P:=fun v=>v=true↔(i=s.length∨s.getD i 0=b)) (Ok.ite (fun c=>Ok.ret ?_) fun c=>Ok.chk (inb_iff.2 ⟨by omega,by have:=of_decide_eq_false c;omega⟩) (Ok.ret ?_)) fun v hv=>Ok.ite (fun c=>?_) fun c=>Ok.ret ?_) fun j hj=>?_
  ·have:=of_decide_eq_true c
   exact ⟨fun _=>.inl (by omega),fun _=>rfl⟩
  ·have:=of_decide_eq_false c
   rw [decide_eq_true_eq]
   refine ⟨fun h=>.inr (UInt8.toNat_inj.1 (by omega)),fun h=>?_⟩
   rcases h with h|h
   ·omega
   ·rw [h]
  ·have c:=hv.1 c
   refine Ok.chk (inc_iff.2 ⟨by omega,by omega,by omega⟩) (Ok.chk (room_s (by simp only [List.length_append,List.length_cons,List.length_nil];omega)) (Ok.chk (in64_s (by omega) (by omega)) (Ok.ret ⟨i+1,by dsimp only;omega,by omega,by simp;omega,?_⟩)))
   dsimp only
   by_cases ci:i=s.length
   ·refine .inr ⟨by omega,?_⟩
    rw [ci,List.drop_length] at h6
    rw [ci]
    simpa [spl,glue] using h6
   ·have hlt:i<s.length:=by omega
    have c:s.getD i 0=b:=by rcases c with c|c;exact absurd c ci;exact c
    have hd:s.drop i=b::s.drop (i+1):=by
     rw [List.drop_eq_getElem_cons hlt,←c,List.getD_eq_getElem?_getD,List.getElem?_eq_getElem hlt];rfl
    refine .inl ⟨by omega,?_⟩
    rw [hd] at h6
    have e0:(s.take (i+1)).drop (i+1)=[]:=by simp
    rw [e0,glue_nil (spl_ne b _)]
    simp only [spl,if_true,glue,List.append_nil] at h6
    simpa using h6
  ·have c:¬(i=s.length∨s.getD i 0=b):=fun h=>by rw [hv.2 h] at c;cases c
   have hlt:i<s.length:=by
    have:i≠s.length:=fun h=>c (.inl h)
    omega
   have cb:s.getD i 0≠b:=fun h=>c (.inr h)
   refine ⟨a,rfl,by omega,by dsimp only;omega,.inl ⟨by omega,?_⟩⟩
   have hg:s.getD i 0=s[i]:=by rw [List.getD_eq_getElem?_getD,List.getElem?_eq_getElem hlt];rfl
   rw [List.drop_eq_getElem_cons hlt,←hg] at h6
   simp only [spl,if_neg cb,glue_glue] at h6
   have e0:(s.take (i+1)).drop a=(s.take i).drop a++[s.getD i 0]:=by
    rw [List.take_add_one,List.getElem?_eq_getElem hlt,List.drop_append_of_le_length (by rw [List.length_take];omega),hg];rfl
   dsimp only
   rw [e0]
   exact h6
  ·obtain ⟨a2,j1,j2,j3,j4⟩:=hj
   exact Ok.chk (in64_s (by omega) (by omega)) (Ok.ret ⟨⟨a2,i+1,j1,by dsimp only;omega,j2,by omega,j3,j4⟩,by dsimp only;omega⟩)
 ·have d:¬(i:Int)≤s.length:=of_decide_eq_false d
  rcases h6 with h6|h6
  ·omega
  ·exact Ok.ret h6.2
theorem rParse_eq {l:List GRule} (h:GL l) (hl:(rtxt l).length≤65536):F_19 (rtxt l)=some (l,0):=by
 have hv:=h.v
 have hn:=hv.n
 have hL:∀r∈l,LensR r:=fun r hr=>⟨by have:=(hv.r r hr).1.2.2;omega,(hv.r r hr).2.1.rgt.lens (by have:=(hv.r r hr).2.1.cnt;omega)⟩
 refine Ok.eq ?_
 unfold F_19
 refine Ok.ite (fun c=>by have:=of_decide_eq_true c;omega) fun _=>?_
 rw [rcut_eq 10 hl,spl_rtxt fun r hr=>ln_nl (hv.r r hr).1 (hv.r r hr).2.1.rgt,Option.bind_some]
 have hyl:(l.map GRule.ln++[[]]).length=l.length+1:=by simp
 refine Ok.ite (fun c=>by have:=of_decide_eq_true c;omega) fun _=>?_
 refine Ok.bind (Ok.loop (Q:=fun o:Sum (List GRule) (List GRule×Int)=>o=.inl l) (fun x:Int×List GRule=>∃n:Nat,n≤l.length∧x=((n:Int),l.take n)) (fun x=>(l.length - x.1).toNat) (fun x hx=>?_) _ ⟨0,by omega,rfl⟩) fun o ho=>?_
 ·obtain ⟨n,hn2,rfl⟩:=hx
  unfold F_2j
  dsimp only
  refine Ok.chk (in64_s (by omega) (by omega)) (Ok.ite (fun d=>?_) fun d=>?_)
  ·have d:(n:Int)+1<(l.map GRule.ln++[[]]).length:=of_decide_eq_true d
   obtain ⟨r,hr,hg,ht⟩:=at_take (l:=l) (n:=n) (by omega)
   have e:(l.map GRule.ln++[[]]).getD ((n:Int)).toNat default=r.ln:=by
    have hlt:n<l.length:=by omega
    rw [Int.toNat_natCast,List.getD_eq_getElem?_getD,List.getElem?_append_left (by simpa using hlt),List.getElem?_map,List.getElem?_eq_getElem hlt,←hg,List.getD_eq_getElem?_getD,List.getElem?_eq_getElem hlt];rfl
   rw [e,line_back (hv.r r hr).1 (hv.r r hr).2.1 (hv.r r hr).2.2 (h.w r hr),Option.bind_some]
   have htl:(l.take n).length≤40:=by rw [List.length_take];omega
   refine Ok.chk (inb_iff.2 ⟨by omega,by omega⟩) (Ok.ite (fun f=>by cases f) fun _=>Ok.chk (room_s (by simp only [List.length_append,List.length_cons,List.length_nil];omega)) (Ok.chk (in64_s (by omega) (by omega)) (Ok.ret ⟨⟨n+1,by omega,by rw [ht];simp⟩,by dsimp only;omega⟩)))
  ·have d:¬(n:Int)+1<(l.map GRule.ln++[[]]).length:=of_decide_eq_false d
   obtain rfl:n=l.length:=by omega
   exact Ok.ret (by rw [List.take_length];rfl)
 ·subst ho
  show Ok ((F_10 l).bind _) _
  rw [rText_eq hL hv h.w,Option.bind_some]
  exact Ok.grp (Ok.ite (fun f=>by simp at f) fun _=>Ok.ret rfl)
theorem parse_same {s:Str} (hl:s.length≤65536):∃y,F_r s=some y∧F_19 s=some y∧y.1.length≤40∧∀r∈y.1,Lens r.When:=by
 rcases parse_char hl with ⟨l,h1,rfl,h3⟩|⟨h1,h2⟩
 ·exact ⟨_,h3,rParse_eq h1 hl,h1.v.n,fun r hr=>(h1.v.r r hr).2.1.rgt.lens (by have:=(h1.v.r r hr).2.1.cnt;omega)⟩
 ·refine ⟨_,h2,?_,by simp,by simp⟩
  obtain ⟨y,e,h⟩:=rparse_ok hl
  rcases h with rfl|⟨g1,g2,_⟩
  ·exact e
  ·exact absurd ⟨_,g1,g2⟩ h1
theorem pone_ok (k:Int) (a:Str):F_29 k a ()=some (.nx ()):=by
 classical
 refine Ok.eq ?_
 unfold F_29
 refine Ok.ite (fun _=>Ok.ret rfl) fun c=>?_
 have c:=of_decide_eq_false c
 obtain ⟨y,e1,e2,e3,e4⟩:=parse_same (s:=a) (by omega)
 rw [e1,e2,Option.bind_some,Option.bind_some]
 refine Ok.ite (fun f=>by simp at f) fun _=>?_
 rw [rSame_eq y.1 y.1 (by omega) e4,Option.bind_some]
 exact Ok.ite (fun f=>by simp at f) fun _=>Ok.ret rfl
theorem parses21 {tape:List Int} {s:Str} {at_:Int} {by_:UInt8} (ht:(V.sl (tape.map (V.int .i64))).fact):F_2a tape s at_ by_=some true:=by
 have h0:TO (GTape.mk tape 0):=⟨Int.le_refl 0,Int.ofNat_le.2 (fact_sl ht)⟩
 refine Ok.eq ?_
 unfold F_2a
 refine Ok.bind (btw_ok h0 (by omega) (by omega) (by omega)) fun y4 h4=>Ok.bind (rules_made h4.2.2 (by have:=h4.1;omega) (by have:=h4.2.1;omega)) fun y5 h5=>?_
 have hn:y5.1.length≤6:=by have:=h4.2.1;have:=h5.2.1;omega
 have hn1:1≤y5.1.length:=by have:=h4.1;have:=h5.2.1;omega
 have hv:=h5.1.vr hn
 have hw:∀r∈y5.1,Wf r.When:=fun r hr=>(h5.1.r r hr).2.1
 have hL:∀r∈y5.1,LensR r:=fun r hr=>⟨by have:=(hv.r r hr).1.2.2;omega,(hv.r r hr).2.1.rgt.lens (by have:=(hv.r r hr).2.1.cnt;omega)⟩
 have hl:=rtxt_len (l:=y5.1) fun r hr=>line_len (hv.r r hr).1 (hv.r r hr).2.1 (hw r hr)
 have hp:1≤(rtxt y5.1).length:=by
  rcases hy:y5.1 with _|⟨a,r⟩
  ·rw [hy] at hn1;simp at hn1
  ·simp [rtxt,GRule.line];omega
 rw [rText_eq hL hv hw,Option.bind_some]
 generalize rtxt y5.1=T at hl hp
 refine Ok.ite (fun f=>by simp at f) fun _=>?_
 dsimp only
 have m0:0≤at_ % 2^16:=Int.emod_nonneg _ (by decide)
 have m1:0≤(at_ % 2^16) % (T.length:Int):=Int.emod_nonneg _ (by omega)
 have m2:(at_ % 2^16) % (T.length:Int)<T.length:=Int.emod_lt_of_pos _ (by omega)
 refine Ok.chk (divs_iff.2 ⟨m0,by omega⟩) (Ok.chk (inb_iff.2 ⟨m1,m2⟩) (Ok.chk (strl_s (by omega)) (Ok.chk (in64_s (by omega) (by omega)) (Ok.chk (inc_iff.2 ⟨by omega,by omega,by omega⟩) (Ok.chk (strl_s (by simp;omega)) (Ok.chk (strl_s (by simp;omega)) (Ok.chk (strl_s (by simp;omega)) ?_)))))))
 simp only [forL,pone_ok,Option.bind_some,Fl.elim]
 rw [awake21]
 exact Ok.ret rfl
theorem call21p {tape:List Int} {s:Str} {at_:Int} {by_:UInt8}:ACall Tryz.prog 3 [.sl (tape.map (V.int .i64)),.str s,.int .i64 at_,byteV by_] [] (fun r H=>r=.bool true∧H=[]) :=
 acall_fact2 (by kernel_rfl) fun h=>Wq_2a.w (parses21 (h _ (by simp)))
end Go.Ab
