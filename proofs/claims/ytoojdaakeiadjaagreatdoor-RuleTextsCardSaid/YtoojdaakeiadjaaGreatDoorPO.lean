/- Rules: numbers of terms, depths, and which are right. -/
import Derived.Test.YtoojdaakeiadjaaGreatDoorLA
import Derived.Test.YtoojdaakeiadjaaGreatDoorAbHo
import Derived.Test.YtoojdaakeiadjaaGreatDoorAbMir
import Derived.Test.YtoojdaakeiadjaaGreatDoorLC
import Derived.Test.YtoojdaakeiadjaaGreatDoorAbStr
import Derived.Test.YtoojdaakeiadjaaGreatDoorLD
import Derived.Test.YtoojdaakeiadjaaGreatDoorMI
import Derived.Test.YtoojdaakeiadjaaGreatDoorAbTop
set_option linter.all false
set_option linter.all false
namespace Go.Ab
open Go.Proofs
theorem in64_s {n:Int} (h1:-1000000000000000≤n) (h2:n≤1000000000000000):in64 n=true:=in64_iff.2 ⟨by omega,by omega⟩
theorem room_s {n b:Nat} (h:n*b≤100000000):room n b=true:=room_iff.2 (by omega)
theorem getD_at {α:Type} [Inhabited α] {l pre r:List α} {x:α} (hw:l=pre++x::r):l.getD pre.length default=x:=by rw [hw];simp
theorem len_at {α:Type} {l pre r:List α} {x:α} (hw:l=pre++x::r):pre.length<l.length:=by rw [hw];simp
theorem mem_at {α:Type} {l pre r:List α} {x:α} (hw:l=pre++x::r):x∈l:=by rw [hw];simp
mutual
def GTerm.hgt:GTerm→Nat
 | ⟨_,_,_,_,k⟩=>GTerm.hgts k+1
def GTerm.hgts:List GTerm→Nat
 | []=>0
 | a::r=>max (GTerm.hgt a) (GTerm.hgts r)
end
theorem hgt_eq (x:GTerm):x.hgt=GTerm.hgts x.Kids+1:=by cases x;simp only [GTerm.hgt]
theorem hgts_mem:∀{l:List GTerm} {k:GTerm},k∈l→k.hgt≤GTerm.hgts l
 | a::r,k,h=>by
  simp only [GTerm.hgts]
  rcases List.mem_cons.1 h with rfl|h
  ·omega
  ·have:=hgts_mem h;omega
theorem kid_hgt {x k:GTerm} (h:k∈x.Kids):k.hgt<x.hgt:=by rw [hgt_eq x];have:=hgts_mem h;omega
theorem hgt_pos (x:GTerm):1≤x.hgt:=by rw [hgt_eq];omega
theorem GTerm.ind {P:GTerm→Prop} (h:∀x,(∀k∈x.Kids,P k)→P x):∀x,P x:=by
 have:∀n (x:GTerm),x.hgt≤n→P x:=by
  intro n
  induction n with
  | zero=>intro x hx;have:=hgt_pos x;omega
  | succ n ih=>intro x hx;exact h x fun k hk=>ih k (by have:=kid_hgt hk;omega)
 exact fun x=>this x.hgt x (Nat.le_refl _)
mutual
def GTerm.cnt:GTerm→Int
 | ⟨_,_,_,_,k⟩=>GTerm.cnts k+1
def GTerm.cnts:List GTerm→Int
 | []=>0
 | a::r=>GTerm.cnt a+GTerm.cnts r
end
theorem cnt_eq (x:GTerm):x.cnt=GTerm.cnts x.Kids+1:=by cases x;simp only [GTerm.cnt]
theorem cnts_nn':∀{l:List GTerm},(∀k∈l,1≤k.cnt)→(l.length:Int)≤GTerm.cnts l
 | [],_=>by simp [GTerm.cnts]
 | a::r,h=>by
  have h1:=h a (by simp)
  have h2:=cnts_nn' (l:=r) fun k hk=>h k (by simp [hk])
  simp only [GTerm.cnts,List.length_cons];omega
theorem cnt_pos:∀x:GTerm,1≤x.cnt:=GTerm.ind fun x ih=>by rw [cnt_eq];have:=cnts_nn' ih;omega
theorem cnts_len (l:List GTerm):(l.length:Int)≤GTerm.cnts l:=cnts_nn' fun k _=>cnt_pos k
theorem cnts_append:∀a b:List GTerm,GTerm.cnts (a++b)=GTerm.cnts a+GTerm.cnts b
 | [],b=>by simp [GTerm.cnts]
 | x::r,b=>by simp only [List.cons_append,GTerm.cnts,cnts_append r b];omega
theorem cnts_mem {l:List GTerm} {k:GTerm} (h:k∈l):k.cnt≤GTerm.cnts l:=by
 obtain ⟨a,b,rfl⟩:=List.append_of_mem h
 have h1:=cnts_len a
 have h2:=cnts_len b
 rw [cnts_append];simp only [GTerm.cnts];omega
theorem kid_cnt {x k:GTerm} (h:k∈x.Kids):k.cnt<x.cnt:=by rw [cnt_eq x];have:=cnts_mem h;omega
theorem kids_cnt (x:GTerm):(x.Kids.length:Int)<x.cnt:=by rw [cnt_eq x];have:=cnts_len x.Kids;omega
theorem hgt_cnt:∀x:GTerm,(x.hgt:Int)≤x.cnt:=GTerm.ind fun x ih=>by
 have:∀l:List GTerm,(∀k∈l,(k.hgt:Int)≤k.cnt)→(GTerm.hgts l:Int)≤GTerm.cnts l:=by
  intro l
  induction l with
  | nil=>intro _;simp [GTerm.hgts,GTerm.cnts]
  | cons a r ih =>
   intro h
   have h1:=h a (by simp)
   have h2:=ih fun k hk=>h k (by simp [hk])
   have h3:=cnts_len r
   have h4:=cnt_pos a
   simp only [GTerm.hgts,GTerm.cnts];omega
 have:=this x.Kids ih
 rw [hgt_eq,cnt_eq];omega
theorem terms_ok:∀(x:GTerm) (m:Nat),x.hgt≤m→Ok (FR_5 m x) (·=min x.cnt 61):=by
 refine GTerm.ind fun x ih m hm=>?_
 cases m with
 | zero=>have:=hgt_pos x;omega
 | succ m =>
  simp only [FR_5]
  refine Ok.bind (Ok.forI (all:=x.Kids) (Q:=fun o=>o=if 1+GTerm.cnts x.Kids≤60 then .nx (1+GTerm.cnts x.Kids) else .ex 61) (fun pre s=>s=1+GTerm.cnts pre∧s≤60) x.Kids [] 0 1 rfl rfl ⟨by simp [GTerm.cnts],by omega⟩ (fun pre k r s hw hs=>?_) fun s hs=>?_) fun o ho=>?_
  ·obtain ⟨hs,hs2⟩:=hs
   have hk:=mem_at hw
   have h1:=cnts_len pre
   have h2:=cnts_len r
   have h3:=cnt_pos k
   have hc:GTerm.cnts x.Kids=GTerm.cnts pre+(k.cnt+GTerm.cnts r):=by rw [hw,cnts_append];simp only [GTerm.cnts]
   refine Ok.bind (ih k hk m (by have:=kid_hgt hk;omega)) fun y hy=>?_
   subst hy
   refine Ok.chk (in64_s (by omega) (by omega)) (Ok.ite (fun c=>?_) fun c=>?_)
   ·have c:=of_decide_eq_true c
    refine Ok.ret ?_
    show Fl.ex 61=_
    rw [if_neg (by omega)]
   ·have c:=of_decide_eq_false c
    exact Ok.ret ⟨by rw [cnts_append];simp only [GTerm.cnts];omega,by omega⟩
  ·rw [if_pos (by omega),←hs.1]
  ·subst ho
   rw [cnt_eq]
   by_cases c:1+GTerm.cnts x.Kids≤60
   ·rw [if_pos c];exact Ok.ret (by show _=min _ _;omega)
   ·rw [if_neg c];exact Ok.ret (by show _=min _ _;omega)
theorem terms_eq (x:GTerm):F_5 x=some (min x.cnt 61):=lim_of ⟨x.hgt,fun m hm=>(terms_ok x m hm).eq⟩
theorem hgts_append:∀a b:List GTerm,GTerm.hgts (a++b)=max (GTerm.hgts a) (GTerm.hgts b)
 | [],b=>by simp [GTerm.hgts]
 | x::r,b=>by simp only [List.cons_append,GTerm.hgts,hgts_append r b];omega
theorem depth_ok:∀(x:GTerm) (m:Nat) (left:Int),x.hgt≤m→0≤left→left≤1000→Ok (FR_6 m x left) (·=min (x.hgt:Int) (left+1)):=by
 refine GTerm.ind fun x ih m left hm h0 h1=>?_
 cases m with
 | zero=>have:=hgt_pos x;omega
 | succ m =>
  have hp:=hgt_pos x
  simp only [FR_6]
  refine Ok.ite (fun c=>?_) fun c=>?_
  ·have c:=of_decide_eq_true c
   exact Ok.ret (by show _=min _ _;omega)
  ·have c:=of_decide_eq_false c
   refine Ok.bind (Ok.foldI (all:=x.Kids) (Q:=fun o=>o=min (GTerm.hgts x.Kids:Int) left) (fun pre s=>s=min (GTerm.hgts pre:Int) left) x.Kids [] 0 0 rfl rfl (by simp only [GTerm.hgts];omega) (fun pre k r s hw hs=>?_) fun s hs=>hs) fun o ho=>?_
   ·have hk:=mem_at hw
    refine Ok.chk (in64_s (by omega) (by omega)) (Ok.bind (ih k hk m (left - 1) (by have:=kid_hgt hk;omega) (by omega) (by omega)) fun y hy=>Ok.ret ?_)
    subst hy hs
    rw [hgts_append];simp only [GTerm.hgts];omega
   ·subst ho
    refine Ok.chk (in64_s (by omega) (by omega)) (Ok.ret ?_)
    rw [hgt_eq];omega
theorem depth_eq (x:GTerm):F_6 x 20=some (min (x.hgt:Int) 21):=lim_of ⟨x.hgt,fun m hm=>(depth_ok x m 20 hm (by omega) (by omega)).eq⟩
theorem contains_go {α:Type} {body:Int→α→Unit→Option (Fl Unit Int)} (p:α→Prop) [DecidablePred p]:∀(xs:List α) (k:Int),0≤k→(∀k x,x∈xs→body k x ()=some (if p x then .ex k else .nx ())) →
  ∃o,forL body xs k ()=some o∧((∃x∈xs,p x)→∃r,o=.ex r∧0≤r)∧((∀x∈xs,¬p x)→o=.nx ())
 | [],k,hk,h=>⟨.nx (),rfl,fun ⟨x,hx,_⟩=>by simp at hx,fun _=>rfl⟩
 | x::r,k,hk,h=>by
  simp only [forL,h k x (by simp)]
  by_cases c:p x
  ·simp only [if_pos c,Option.bind_some,Fl_ex]
   exact ⟨_,rfl,fun _=>⟨k,rfl,hk⟩,fun hn=>absurd c (hn x (by simp))⟩
  ·simp only [if_neg c,Option.bind_some,Fl_nx]
   obtain ⟨o,h1,h2,h3⟩:=contains_go p r (k+1) (by omega) fun k y hy=>h k y (by simp [hy])
   refine ⟨o,h1,fun ⟨y,hy,hp⟩=>?_,fun hn=>h3 fun y hy=>hn y (by simp [hy])⟩
   rcases List.mem_cons.1 hy with rfl|hy
   ·exact absurd hp c
   ·exact h2 ⟨y,hy,hp⟩
open Classical in
theorem contains_b {α:Type} {body:Int→α→Unit→Option (Fl Unit Int)} (p:α→Prop) (xs:List α) [Decidable (∃x∈xs,p x)] (h:∀k x,x∈xs→body k x ()=some (if p x then .ex k else .nx ())) :
  (((forL body xs 0 ()).bind fun o=>o.elim (fun _=>some (-1)) fun r=>some r).bind fun y=>some (decide (0≤y)))=some (decide (∃x∈xs,p x)):=by
 obtain ⟨o,h1,h2,h3⟩:=contains_go p xs 0 (Int.le_refl 0) h
 rw [h1]
 by_cases c:∃x∈xs,p x
 ·obtain ⟨r,rfl,hr⟩:=h2 c
  simp only [Option.bind_some,Fl_ex,decide_eq_true hr,decide_eq_true c]
 ·have:=h3 fun x hx hp=>c ⟨x,hx,hp⟩
  subst this
  simp only [Option.bind_some,Fl_nx,decide_eq_false c]
  rfl
def qP (s:Str):Prop:=(∀c∈s,33≤c.toNat∧c.toNat≤126∧c.toNat≠34)∧1≤s.length∧s.length≤40
def okN (x:GTerm):Prop :=
 ((x.Op=1∨x.Op=2∨x.Op=3)∧qP x.Text∧x.Number=0∧x.Print=0∧x.Kids=[]) ∨
 ((x.Op=4∨x.Op=5∨x.Op=6∨x.Op=8)∧x.Text=[]∧0≤x.Number∧x.Number≤1099511627776∧x.Print=0∧x.Kids=[]) ∨
 (x.Op=7∧x.Text=[]∧x.Number=0∧x.Kids=[]) ∨
 ((x.Op=9∨x.Op=10∨x.Op=11)∧x.Text=[]∧x.Number=0∧x.Print=0∧((x.Op=9∧x.Kids.length=1)∨(x.Op≠9∧2≤x.Kids.length)))
inductive Rgt:GTerm→Prop
 | mk (x:GTerm) (h:okN x) (hk:∀k∈x.Kids,Rgt k):Rgt x
theorem Rgt.ok {x:GTerm} (h:Rgt x):okN x:=by cases h;assumption
theorem Rgt.kid {x k:GTerm} (h:Rgt x) (hk:k∈x.Kids):Rgt k:=by cases h with|mk _ _ h=>exact h k hk
open Classical in
theorem quot_eq (s:Str):F_15 s=some (decide (qP s)):=by
 refine Ok.eq ?_
 unfold F_15
 refine Ok.bind (Ok.forI (all:=s) (Q:=Fl.elim (fun _=>∀c∈s,33≤c.toNat∧c.toNat≤126∧c.toNat≠34) fun r=>r=false∧¬qP s) (fun pre _=>∀c∈pre,33≤c.toNat∧c.toNat≤126∧c.toNat≠34) s [] 0 () rfl rfl (by simp) (fun pre c r _ hw hs=>?_) fun _ hs=>hs) fun o ho=>?_
 ·unfold F_27
  refine Ok.grp (Ok.grp (Ok.ite (fun c1=>Ok.ret ⟨rfl,fun hq=>?_⟩) fun c1=>Ok.ret ?_))
  ·have:=hq.1 c (mem_at hw)
   simp only [Bool.or_eq_true,decide_eq_true_eq] at c1
   omega
  ·simp only [Bool.or_eq_false_iff,decide_eq_false_iff_not] at c1
   intro d hd
   rcases List.mem_append.1 hd with hd|hd
   ·exact hs d hd
   ·cases List.mem_singleton.1 hd
    omega
 ·cases o with
  | ex r =>
   obtain ⟨rfl,h⟩:=ho
   exact Ok.ret (decide_eq_false h).symm
  | nx u =>
   refine Ok.grp (Ok.ret ?_)
   rw [Bool.eq_iff_iff]
   simp only [Bool.and_eq_true,decide_eq_true_eq]
   exact ⟨fun h=>⟨ho,by omega,by omega⟩,fun h=>⟨by have:=h.2.1;omega,by have:=h.2.2;omega⟩⟩
theorem len0 {α:Type} {l:List α}:(l.length:Int)=0↔l=[]:=by
 rw [←List.length_eq_zero_iff];omega
open Classical in
theorem right_ok:∀(x:GTerm) (m:Nat),4*x.hgt≤m→Ok (FR_7 m x) (·=decide (Rgt x)):=by
 refine GTerm.ind fun x ih m hm=>?_
 have hp:=hgt_pos x
 obtain ⟨m,rfl⟩:∃n,m=n+4:=⟨m - 4,by omega⟩
 have hc:FR_p (m+3) x.Kids=some (decide (∃k∈x.Kids,¬Rgt k)):=by
  simp only [FR_p,FR_s]
  refine contains_b (fun k=>¬Rgt k) x.Kids fun k y hy=>?_
  have:=(ih y hy m (by have:=kid_hgt hy;omega)).eq
  simp only [FR_i,this,Option.bind_some]
  by_cases c:Rgt y<;>simp [c]
 simp only [FR_7]
 refine Ok.jn (P:=fun b=>b=decide (okN x)) ?_ fun y hy=>?_
 ·refine Ok.jn (P:=fun b=>b=decide (x.Op=1∨x.Op=2∨x.Op=3)) (Ok.ite (fun c=>Ok.ret (by simpa using .inl (of_decide_eq_true c))) fun c=>Ok.ite (fun c2=>Ok.ret (by simpa using .inr (.inl (of_decide_eq_true c2)))) fun c2=>Ok.ret (by simp at c c2;simp [c,c2])) fun b hb=>?_
  subst hb
  refine Ok.ite (fun c=>?_) fun c=>?_
  ·have c:=of_decide_eq_true c
   rw [quot_eq,Option.bind_some]
   refine Ok.grp (Ok.grp (Ok.grp (Ok.ret ?_)))
   rw [Bool.eq_iff_iff]
   simp only [Bool.and_eq_true,decide_eq_true_eq,len0]
   constructor
   ·rintro ⟨⟨⟨h1,h2⟩,h3⟩,h4⟩;exact .inl ⟨c,h1,h2,h3,h4⟩
   ·rintro (h|⟨h,_⟩|⟨h,_⟩|⟨h,_⟩)
    ·exact ⟨⟨⟨h.2.1,h.2.2.1⟩,h.2.2.2.1⟩,h.2.2.2.2⟩
    all_goals omega
  ·have c:=of_decide_eq_false c
   refine Ok.jn (P:=fun b=>b=decide (x.Op=4∨x.Op=5∨x.Op=6∨x.Op=8)) (Ok.ite (fun c=>Ok.ret (by simpa using .inl (of_decide_eq_true c))) fun c=>Ok.ite (fun c2=>Ok.ret (by simpa using .inr (.inl (of_decide_eq_true c2)))) fun c2=>Ok.ite (fun c3=>Ok.ret (by simpa using .inr (.inr (.inl (of_decide_eq_true c3))))) fun c3=>Ok.ret (by simp at c c2 c3;simp [c,c2,c3])) fun b hb=>?_
   subst hb
   refine Ok.ite (fun c1=>?_) fun c1=>?_
   ·have c1:=of_decide_eq_true c1
    refine Ok.grp (Ok.grp (Ok.grp (Ok.grp (Ok.ret ?_))))
    rw [Bool.eq_iff_iff]
    simp only [Bool.and_eq_true,decide_eq_true_eq,len0]
    constructor
    ·rintro ⟨⟨⟨⟨h1,h2⟩,h3⟩,h4⟩,h5⟩;exact .inr (.inl ⟨c1,h1,h2,h3,h4,h5⟩)
    ·rintro (⟨h,_⟩|h|⟨h,_⟩|⟨h,_⟩)
     ·omega
     ·exact ⟨⟨⟨⟨h.2.1,h.2.2.1⟩,h.2.2.2.1⟩,h.2.2.2.2.1⟩,h.2.2.2.2.2⟩
     all_goals omega
   ·have c1:=of_decide_eq_false c1
    refine Ok.ite (fun c2=>?_) fun c2=>?_
    ·have c2:=of_decide_eq_true c2
     refine Ok.grp (Ok.grp (Ok.ret ?_))
     rw [Bool.eq_iff_iff]
     simp only [Bool.and_eq_true,decide_eq_true_eq,len0]
     constructor
     ·rintro ⟨⟨h1,h2⟩,h3⟩;exact .inr (.inr (.inl ⟨c2,h1,h2,h3⟩))
     ·rintro (⟨h,_⟩|⟨h,_⟩|h|⟨h,_⟩)
      ·omega
      ·omega
      ·exact ⟨⟨h.2.1,h.2.2.1⟩,h.2.2.2⟩
      ·omega
    ·have c2:=of_decide_eq_false c2
     refine Ok.jn (P:=fun b=>b=decide (x.Op=9∨x.Op=10∨x.Op=11)) (Ok.ite (fun c=>Ok.ret (by simpa using .inl (of_decide_eq_true c))) fun c=>Ok.ite (fun c2=>Ok.ret (by simpa using .inr (.inl (of_decide_eq_true c2)))) fun c2=>Ok.ret (by simp at c c2;simp [c,c2])) fun b hb=>?_
     subst hb
     refine Ok.ite (fun c3=>?_) fun c3=>?_
     ·have c3:=of_decide_eq_true c3
      refine Ok.grp (Ok.grp (Ok.grp (Ok.ret ?_)))
      rw [Bool.eq_iff_iff]
      simp only [Bool.and_eq_true,Bool.or_eq_true,Bool.not_eq_true',decide_eq_true_eq,decide_eq_false_iff_not]
      constructor
      ·rintro ⟨⟨⟨h1,h2⟩,h3⟩,h4⟩
       refine .inr (.inr (.inr ⟨c3,h1,h2,h3,?_⟩))
       rcases h4 with h4|h4
       ·exact .inl ⟨h4.1,by omega⟩
       ·exact .inr ⟨h4.1,by omega⟩
      ·rintro (⟨h,_⟩|⟨h,_⟩|⟨h,_⟩|h)
       ·omega
       ·omega
       ·omega
       ·refine ⟨⟨⟨h.2.1,h.2.2.1⟩,h.2.2.2.1⟩,?_⟩
        rcases h.2.2.2.2 with h4|h4
        ·exact .inl ⟨h4.1,by omega⟩
        ·exact .inr ⟨h4.1,by omega⟩
     ·have c3:=of_decide_eq_false c3
      refine Ok.ret (decide_eq_false ?_).symm
      rintro (⟨h,_⟩|⟨h,_⟩|⟨h,_⟩|⟨h,_⟩)<;>omega
 ·subst hy
  refine Ok.jn (P:=fun b=>b=decide (Rgt x)) (Ok.ite (fun c=>?_) fun c=>?_) fun b hb=>Ok.ret hb
  ·have c:=of_decide_eq_true c
   rw [hc]
   refine Ok.ret ?_
   rw [Bool.eq_iff_iff]
   simp only [Bool.not_eq_true',decide_eq_false_iff_not,decide_eq_true_eq]
   exact ⟨fun h=>.mk x c fun k hk=>Classical.byContradiction fun hn=>h ⟨k,hk,hn⟩,fun h ⟨k,hk,hn⟩=>hn (h.kid hk)⟩
  ·have c:=of_decide_eq_false c
   exact Ok.ret (decide_eq_false fun h=>c h.ok).symm
open Classical in
theorem right_eq (x:GTerm):F_7 x=some (decide (Rgt x)):=lim_of ⟨4*x.hgt,fun m hm=>(right_ok x m hm).eq⟩
structure PV (x:GTerm):Prop where
 cnt:x.cnt≤60
 hgt:x.hgt≤20
 rgt:Rgt x
open Classical in
noncomputable def GTerm.err (x:GTerm):Int:=if 60<x.cnt then 3 else if 20<x.hgt then 9 else if ¬Rgt x then 1 else 0
open Classical in
theorem term_eq (x:GTerm):F_y x=some x.err:=by
 refine Ok.eq ?_
 unfold F_y GTerm.err
 rw [terms_eq,Option.bind_some]
 refine Ok.ite (fun c=>Ok.ret (by rw [if_pos (by have:=of_decide_eq_true c;omega)])) fun c=>?_
 have c:=of_decide_eq_false c
 rw [if_neg (by omega),depth_eq,Option.bind_some]
 refine Ok.ite (fun c=>Ok.ret (by rw [if_pos (by have:=of_decide_eq_true c;omega)])) fun c=>?_
 have c:=of_decide_eq_false c
 rw [if_neg (by omega),right_eq,Option.bind_some]
 refine Ok.ite (fun c=>Ok.ret (by rw [if_pos (by simpa using c)])) fun c=>Ok.ret (by rw [if_neg (by simpa using c)])
theorem err_zero {x:GTerm}:x.err=0↔PV x:=by
 classical
 unfold GTerm.err
 constructor
 ·intro h
  split at h
  ·omega
  ·split at h
   ·omega
   ·split at h
    ·omega
    ·rename_i h1 h2 h3
     exact ⟨by omega,by omega,Classical.byContradiction h3⟩
 ·rintro ⟨h1,h2,h3⟩
  rw [if_neg (by omega),if_neg (by omega),if_neg (fun h=>h h3)]
end Go.Ab
namespace Go.Ab
open Go.Proofs
def leafH (ks:List GKind) (f:GFinding) (s:GSpot) (o:Int) (t:Str) (n p:Int):Bool :=
 if o=1 then decide (0≤f.Kind∧f.Kind<ks.length∧(ks.getD f.Kind.toNat default).Name=t)
 else if o=2 then decide (s.Place.Path.take t.length=t)
 else if o=3 then decide (s.Place.Path.drop (s.Place.Path.length - t.length)=t)
 else if o=4 then decide (s.Place.Source=n)
 else if o=5 then decide (n≤s.Layers.length)
 else if o=6 then decide (s.From≤s.To∧IntKind.wrap .u64 n≤IntKind.wrap .u64 (IntKind.wrap .u64 s.To - IntKind.wrap .u64 s.From))
 else if o=7 then decide (f.Fingerprint=p)
 else decide (s.Place.Time<n)
mutual
def hold (ks:List GKind) (f:GFinding) (s:GSpot):GTerm→Bool
 | ⟨o,t,n,p,k⟩=>if o=9 then !holdA ks f s k else if o=10 then holdA ks f s k else if o=11 then holdO ks f s k else leafH ks f s o t n p
def holdA (ks:List GKind) (f:GFinding) (s:GSpot):List GTerm→Bool
 | []=>true
 | a::r=>hold ks f s a&&holdA ks f s r
def holdO (ks:List GKind) (f:GFinding) (s:GSpot):List GTerm→Bool
 | []=>false
 | a::r=>hold ks f s a||holdO ks f s r
end
end Go.Ab
namespace Go.Ab
open Go.Proofs
theorem Le.loopL {σ ρ:Type} {f g:σ→Option (Fl σ ρ)} {s:σ} (h:∀s,Le (f s) (g s)):Le (Go.Ab.loop f s) (Go.Ab.loop g s):=fun r hr=>by
 obtain ⟨n,hn⟩:=loop_iter.1 hr
 exact loop_iter.2 ⟨n,Le.iter h n s r hn⟩
theorem Le.up {α:Type} {f:Nat→Option α} (h:∀n,Le (f n) (f (n+1))) {n m:Nat} (hm:n≤m):Le (f n) (f m):=by
 induction hm with
 | refl=>exact Le.refl
 | step _ ih=>exact fun r hr=>h _ r (ih r hr)
theorem Ok.lim {α:Type} {f:Nat→Option α} {Q:α→Prop} (h:∀n,Le (f n) (f (n+1))) (n:Nat) (hn:Ok (f n) Q):Ok (Go.Ab.lim f) Q:=by
 obtain ⟨y,e,hy⟩:=hn
 exact ⟨y,lim_of ⟨n,fun m hm=>Le.up h hm y e⟩,hy⟩
def TO (t:GTape):Prop:=0≤t.at_∧(t.L.length:Int)≤9223372036854775807
theorem nx_ok {t:GTape} {n:Int} (h:TO t) (hn:0<n):Ok (F_4 t n) fun y=>0≤y.1∧y.1<n∧TO y.2:=by
 unfold F_4
 refine Ok.ite (fun c=>Ok.ret ⟨Int.le_refl 0,hn,h⟩) fun c=>?_
 have c':t.at_<t.L.length:=by simpa using c
 have h1:=h.1;have h2:=h.2
 refine Ok.chk (inb_iff.2 ⟨h.1,c'⟩) (Ok.chk (in64_iff.2 ⟨by omega,by omega⟩) (Ok.chk (divs_iff.2 ⟨Int.emod_nonneg _ (by decide),hn⟩) (Ok.ret ⟨Int.emod_nonneg _ (by omega),Int.emod_lt_of_pos _ hn,?_,h2⟩)))
 show 0≤t.at_+1
 omega
theorem btw_ok {t:GTape} {a b:Int} (h:TO t) (h1:-100000≤a) (h2:a≤b) (h3:b≤100000):Ok (F_r t a b) fun y=>a≤y.1∧y.1≤b∧TO y.2:=by
 unfold F_r
 refine Ok.chk (in64_s (by omega) (by omega)) (Ok.chk (in64_s (by omega) (by omega)) (Ok.bind (nx_ok h (by omega)) fun y hy=>Ok.chk (in64_s (by omega) (by omega)) (Ok.ret ⟨?_,?_,hy.2.2⟩)))
 ·show a≤a+y.1;omega
 ·show a+y.1≤b;omega
theorem pow3_pos (d:Nat):(1:Int)≤3^d:=by
 induction d with
 | zero=>decide
 | succ d ih=>rw [Int.pow_succ];omega
theorem hgts_le {c:Nat}:∀{l:List GTerm},(∀k∈l,k.hgt≤c)→GTerm.hgts l≤c
 | [],_=>by simp [GTerm.hgts]
 | a::r,h=>by
  have h1:=h a (by simp)
  have h2:=hgts_le (l:=r) fun k hk=>h k (by simp [hk])
  simp only [GTerm.hgts];omega
theorem mterm_mono:∀n (t:GTape) (d:Int),Le (FR_0 n t d) (FR_0 (n+1) t d)
 | 0,t,d=>by rw [FR_0];exact Le.non
 | n+1,t,d=>by
  have ih:=mterm_mono n
  rw [FR_0,FR_0]
  (repeat' (with_reducible first|exact Le.refl|assumption|exact ih _ _|(refine Le.bind ?_ fun _=>?_)|(refine Le.jn ?_ fun _=>?_)|(refine Le.grp fun _=>?_)|(refine Le.chk ?_)|(refine Le.cond ?_ ?_)|(refine Le.fl (fun _=>?_) fun _=>?_)|(refine Le.sum (fun _=>?_) fun _=>?_)|(refine Le.loopL fun _=>?_)))
inductive Wf:GTerm→Prop
 | mk (x:GTerm) (h0:0≤x.Print) (h1:x.Print<18446744073709551616) (hk:∀k∈x.Kids,Wf k):Wf x
structure gt (d:Nat) (x:GTerm):Prop where
 rgt:Rgt x
 wf:Wf x
 hgt:x.hgt≤d+1
 cnt:2*x.cnt+1≤3^(d+1)
theorem gt.up {d:Nat} {x:GTerm} (h:gt d x):gt (d+1) x:=by
 obtain ⟨h1,h4,h2,h3⟩:=h
 have:=pow3_pos (d+1)
 refine ⟨h1,h4,by omega,?_⟩
 rw [Int.pow_succ 3 (d+1)];omega
theorem gt.lift {x:GTerm}:∀{d:Nat},gt 0 x→gt d x
 | 0,h=>h
 | d+1,h=>(gt.lift h).up
theorem gt_leaf {x:GTerm} (hk:x.Kids=[]) (h:okN x) (hp:0≤x.Print∧x.Print<18446744073709551616):gt 0 x:=by
 refine ⟨.mk x h (by rw [hk];simp),.mk x hp.1 hp.2 (by rw [hk];simp),?_,?_⟩
 ·rw [hgt_eq,hk];simp [GTerm.hgts]
 ·rw [cnt_eq,hk];simp [GTerm.cnts]
theorem gt_node {e:Nat} {op:Int} {kids:List GTerm} (ho:okN (GTerm.mk op [] 0 0 kids)) (hk:∀k∈kids,gt e k) (hl:kids.length≤3):gt (e+1) (GTerm.mk op [] 0 0 kids):=by
 have p3:=pow3_pos (e+1)
 refine ⟨.mk _ ho fun k h=>(hk k h).rgt,.mk _ (by show (0:Int)≤0;omega) (by show (0:Int)<_;omega) fun k h=>(hk k h).wf,?_,?_⟩
 ·rw [hgt_eq]
  have:=hgts_le (c:=e+1) (l:=kids) fun k h=>(hk k h).hgt
  show GTerm.hgts kids+1≤_;omega
 ·rw [cnt_eq]
  show 2*(GTerm.cnts kids+1)+1≤_
  have h3:∀l:List GTerm,(∀k∈l,gt e k)→l.length≤3→2*GTerm.cnts l≤3*(3^(e+1) - 1):=by
   intro l h hl
   match l,h,hl with
   | [],_,_=>simp only [GTerm.cnts];omega
   | [a],h,_=>have h1:=(h a (by simp)).cnt;simp only [GTerm.cnts];omega
   | [a,b],h,_=>have h1:=(h a (by simp)).cnt;have h2:=(h b (by simp)).cnt;simp only [GTerm.cnts];omega
   | [a,b,c],h,_=>have h1:=(h a (by simp)).cnt;have h2:=(h b (by simp)).cnt;have h3:=(h c (by simp)).cnt;simp only [GTerm.cnts];omega
   | _::_::_::_::_,_,hl=>simp only [List.length_cons] at hl;omega
  have:=h3 kids hk hl
  rw [Int.pow_succ 3 (e+1)];omega
instance (s:Str):Decidable (qP s):=inferInstanceAs (Decidable (_∧_))
theorem kinds4:∀i,i<4→qP ([[107,105,110,100,48],[107,105,110,100,49],[112,108,97,105,110,48],[110,111,110,101]].getD i default):=by
 intro i hi
 have:i=0∨i=1∨i=2∨i=3:=by omega
 rcases this with rfl|rfl|rfl|rfl<;>decide
theorem paths6:∀i,i<6→qP ([[97],[49,58],[102,48],[100,111,99,115,47],[33,105,110],[50]].getD i default):=by
 intro i hi
 have:i=0∨i=1∨i=2∨i=3∨i=4∨i=5:=by omega
 rcases this with rfl|rfl|rfl|rfl|rfl|rfl<;>decide
theorem wrp {z:Int} (h0:0≤z) (h1:z≤1000000):IntKind.wrap .u64 z=z:=by
 rw [IntKind.wrap_u64];omega
theorem mterm_ok:∀(d m:Nat) (t:GTape),d<m→TO t→d≤100→Ok (FR_0 m t ((d:Int)+1)) fun y=>gt d y.1∧TO y.2:=by
 intro d
 induction d with
 | zero =>
  intro m t hm ht _
  obtain ⟨m,rfl⟩:∃n,m=n+1:=⟨m - 1,by omega⟩
  rw [FR_0]
  refine Ok.bind (btw_ok ht (by omega) (by omega) (by omega)) fun y hy=>?_
  refine Ok.jn (P:=fun j=>1≤j∧j≤8) (Ok.grp (Ok.ite (fun c=>?_) fun c=>Ok.ret ?_)) fun j hj=>?_
  ·simp only [Bool.and_eq_true,decide_eq_true_eq] at c
   exact Ok.chk (in64_s (by omega) (by omega)) (Ok.ret ⟨by omega,by omega⟩)
  ·simp at c;omega
  ·exact leafs hy.2.2 hj.1 hj.2 (fun _=>gt.lift) (by omega)
 | succ e ih =>
  intro m t hm ht he
  obtain ⟨m,rfl⟩:∃n,m=n+1:=⟨m - 1,by omega⟩
  have e1:((e+1:Nat):Int)+1 - 1=(e:Int)+1:=by omega
  have hrec:∀t,TO t→Ok (FR_0 m t ((e:Int)+1)) fun y=>gt e y.1∧TO y.2:=fun t h=>ih m t (by omega) h (by omega)
  rw [FR_0]
  simp only [e1]
  refine Ok.bind (btw_ok ht (by omega) (by omega) (by omega)) fun y hy=>?_
  refine Ok.jn (P:=fun j=>1≤j∧j≤11) (Ok.grp (Ok.ite (fun c=>?_) fun c=>Ok.ret ⟨hy.1,hy.2.1⟩)) fun j hj=>?_
  ·exact Ok.chk (in64_s (by omega) (by omega)) (Ok.ret ⟨by simp only [Bool.and_eq_true,decide_eq_true_eq] at c;omega,by omega⟩)
  ·by_cases c9:j=9
   ·subst c9
    refine Ok.ite (fun f=>by cases f) fun _=>Ok.jn (P:=fun b=>b=false) (Ok.ite (fun f=>by cases f) fun _=>Ok.ret rfl) fun b hb=>?_
    subst hb
    refine Ok.ite (fun f=>by cases f) fun _=>Ok.ite (fun f=>by cases f) fun _=>Ok.ite (fun _=>?_) fun f=>by cases f
    refine Ok.chk (in64_s (by omega) (by omega)) (Ok.bind (hrec _ hy.2.2) fun z hz=>Ok.ret ⟨?_,hz.2⟩)
    exact gt_node (.inr (.inr (.inr ⟨.inl rfl,rfl,rfl,rfl,.inl ⟨rfl,rfl⟩⟩))) (by simp;exact hz.1) (by simp)
   ·by_cases c10:j=10∨j=11
    ·have n1:decide (j=1)=false:=decide_eq_false (by omega)
     have n2:decide (j=2)=false:=decide_eq_false (by omega)
     have n3:decide (j=3)=false:=decide_eq_false (by omega)
     have n7:decide (j=7)=false:=decide_eq_false (by omega)
     have n9:decide (j=9)=false:=decide_eq_false c9
     rw [n1,n2,n3,n7,n9]
     refine Ok.ite (fun f=>by cases f) fun _=>Ok.jn (P:=fun b=>b=false) (Ok.ite (fun f=>by cases f) fun _=>Ok.ret rfl) fun b hb=>?_
     subst hb
     refine Ok.ite (fun f=>by cases f) fun _=>Ok.ite (fun f=>by cases f) fun _=>Ok.ite (fun f=>by cases f) fun _=>?_
     refine Ok.jn (P:=fun b=>b=true) (Ok.ite (fun _=>Ok.ret rfl) fun f=>Ok.ret (decide_eq_true (by have:=of_decide_eq_false f;omega))) fun b hb=>?_
     subst hb
     refine Ok.ite (fun _=>?_) fun f=>by cases f
     refine Ok.bind (btw_ok hy.2.2 (by omega) (by omega) (by omega)) fun n hn=>?_
     refine Ok.bind (Ok.loop (Q:=fun r:Int×List GTerm×GTape=>r.1=j∧(r.2.1.length:Int)=n.1∧(∀k∈r.2.1,gt e k)∧TO r.2.2) (fun x:Int×Int×List GTerm×GTape=>x.2.1=j∧0≤x.1∧x.1+x.2.2.1.length=n.1∧(∀k∈x.2.2.1,gt e k)∧TO x.2.2.2) (fun x=>x.1.toNat) (fun x hx=>?_) _ ⟨rfl,by omega,by simp,by simp,hn.2.2⟩) fun r hr=>Ok.ret ⟨?_,hr.2.2.2⟩
     ·obtain ⟨a,op,kids,t3⟩:=x
      obtain ⟨h1,h2,h3,h4,h5⟩:=hx
      dsimp only at h1 h2 h3 h4 h5
      subst h1
      refine Ok.ite (fun c=>?_) fun c=>?_
      ·have c:0<a:=of_decide_eq_true c
       refine Ok.chk (in64_s (by omega) (by omega)) (Ok.bind (hrec _ h5) fun z hz=>?_)
       refine Ok.chk (room_s (by simp;omega)) (Ok.chk (in64_s (by omega) (by omega)) (Ok.ret ⟨⟨rfl,by dsimp only;omega,by dsimp only;simp;omega,fun k hk=>?_,hz.2⟩,by dsimp only;omega⟩))
       rcases List.mem_append.1 hk with hk|hk
       ·exact h4 k hk
       ·cases List.mem_singleton.1 hk;exact hz.1
      ·have c:¬0<a:=of_decide_eq_false c
       exact Ok.ret ⟨rfl,by dsimp only;omega,h4,h5⟩
     ·obtain ⟨r1,r2,r3,r4⟩:=hr
      rw [r1]
      exact gt_node (.inr (.inr (.inr ⟨.inr c10,rfl,rfl,rfl,.inr ⟨by show j≠9;omega,by show 2≤r.2.1.length;omega⟩⟩))) r3 (by omega)
    ·exact leafs hy.2.2 hj.1 (by omega) (fun _=>gt.lift) (by omega)
where
 leafs {m d:Nat} {t:GTape} {j dd:Int} (ht:TO t) (h1:1≤j) (h2:j≤8) (lift:∀x,gt 0 x→gt d x) (hd:0≤dd):Ok (bif decide (j=1) then (F_4 t 4).bind fun y27=>chk (inb y27.1 [[107,105,110,100,48],[107,105,110,100,49],[112,108,97,105,110,48],[110,111,110,101]].length) (some ((GTerm.mk j ([[107,105,110,100,48],[107,105,110,100,49],[112,108,97,105,110,48],[110,111,110,101]].getD ((y27.1).toNat) default) 0 0 []),y27.2)) else jn (α:=Bool) (bif decide (j=2) then some true else some (decide (j=3))) fun j28=>bif j28 then (F_4 t 6).bind fun y29=>chk (inb y29.1 [[97],[49,58],[102,48],[100,111,99,115,47],[33,105,110],[50]].length) (some ((GTerm.mk j ([[97],[49,58],[102,48],[100,111,99,115,47],[33,105,110],[50]].getD ((y29.1).toNat) default) 0 0 []),y29.2)) else bif decide (j=7) then (F_4 t 4).bind fun y30=>some ((GTerm.mk j [] 0 (IntKind.wrap .u64 y30.1) []),y30.2) else bif decide (j=9) then chk (in64 dd) ((FR_0 m t dd).bind fun y31=>some ((GTerm.mk j [] 0 0 [y31.1]),y31.2)) else jn (α:=Bool) (bif decide (j=10) then some true else some (decide (j=11))) fun j32=>bif j32 then (F_r t 2 3).bind fun y34=>(loop (fun (x41:Int×Int×(List GTerm)×GTape)=>(bif decide (0<x41.1) then chk (in64 dd) ((FR_0 m x41.2.2.2 dd).bind fun y45=>chk (room (x41.2.2.1.length+[y45.1].length) 64) (chk (in64 (x41.1 - 1)) (some (.nx ((x41.1 - 1),x41.2.1,(x41.2.2.1++[y45.1]),y45.2))))) else some (.ex (x41.2.1,x41.2.2.1,x41.2.2.2)):Option (Fl (Int×Int×(List GTerm)×GTape) (Int×(List GTerm)×GTape)))) (y34.1,j,[],y34.2)).bind fun r46=>some ((GTerm.mk r46.1 [] 0 0 r46.2.1),r46.2.2) else (F_4 t 8).bind fun y47=>some ((GTerm.mk j [] y47.1 0 []),y47.2)) fun y=>gt d y.1∧TO y.2:=by
  refine Ok.ite (fun c=>Ok.bind (nx_ok ht (by omega)) fun y hy=>Ok.chk (inb_iff.2 ⟨hy.1,hy.2.1⟩) (Ok.ret ⟨lift _ (gt_leaf rfl (.inl ⟨.inl (of_decide_eq_true c),kinds4 _ (by have:=hy.1;have:=hy.2.1;omega),rfl,rfl,rfl⟩) ⟨by show (0:Int)≤0;omega,by show (0:Int)<_;omega⟩),hy.2.2⟩)) fun c1=>?_
  have c1:=of_decide_eq_false c1
  refine Ok.jn (P:=fun b=>b=decide (j=2∨j=3)) (Ok.ite (fun c=>Ok.ret (decide_eq_true (.inl (of_decide_eq_true c))).symm) fun c=>Ok.ret ?_) fun b hb=>?_
  ·have c:=of_decide_eq_false c
   exact decide_eq_decide.2 ⟨fun h=>.inr h,fun h=>by omega⟩
  ·subst hb
   refine Ok.ite (fun c=>Ok.bind (nx_ok ht (by omega)) fun y hy=>Ok.chk (inb_iff.2 ⟨hy.1,hy.2.1⟩) (Ok.ret ⟨lift _ (gt_leaf rfl (.inl ⟨.inr (of_decide_eq_true c),paths6 _ (by have:=hy.1;have:=hy.2.1;omega),rfl,rfl,rfl⟩) ⟨by show (0:Int)≤0;omega,by show (0:Int)<_;omega⟩),hy.2.2⟩)) fun c2=>?_
   have c2:=of_decide_eq_false c2
   refine Ok.ite (fun c=>Ok.bind (nx_ok ht (by omega)) fun y hy=>Ok.ret ⟨lift _ (gt_leaf rfl (.inr (.inr (.inl ⟨of_decide_eq_true c,rfl,rfl,rfl⟩))) (by show 0≤IntKind.wrap .u64 y.1∧IntKind.wrap .u64 y.1<_;rw [wrp hy.1 (by have:=hy.2.1;omega)];have:=hy.1;have:=hy.2.1;exact ⟨by omega,by omega⟩)),hy.2.2⟩) fun c7=>?_
   have c7:=of_decide_eq_false c7
   refine Ok.ite (fun c=>by have:=of_decide_eq_true c;omega) fun _=>?_
   refine Ok.jn (P:=fun b=>b=false) (Ok.ite (fun c=>by have:=of_decide_eq_true c;omega) fun _=>Ok.ret (decide_eq_false (by omega))) fun b hb=>?_
   subst hb
   refine Ok.ite (fun f=>by cases f) fun _=>Ok.bind (nx_ok ht (by omega)) fun y hy=>Ok.ret ⟨lift _ (gt_leaf rfl (.inr (.inl ⟨by show j=4∨j=5∨j=6∨j=8;omega,rfl,hy.1,by have:=hy.2.1;show y.1≤_;omega,rfl,rfl⟩)) ⟨by show (0:Int)≤0;omega,by show (0:Int)<_;omega⟩),hy.2.2⟩
theorem made_termW {t:GTape} (d:Nat) (hd:d≤2) (h:TO t):Ok (F_0 t ((d:Int)+1)) fun y=>Rgt y.1∧Wf y.1∧y.1.cnt≤13∧y.1.hgt≤3∧TO y.2:=by
 refine Ok.mono (Ok.lim (f:=fun n=>FR_0 n t ((d:Int)+1)) (fun n=>mterm_mono n t _) (d+1) (mterm_ok d (d+1) t (by omega) h (by omega))) fun y hy=>⟨hy.1.rgt,hy.1.wf,?_,?_,hy.2⟩
 ·have h3:=hy.1.cnt
  have:d=0∨d=1∨d=2:=by omega
  rcases this with rfl|rfl|rfl
  ·have e3:(3:Int)^(0+1)=3:=by decide
   omega
  ·have e3:(3:Int)^(1+1)=9:=by decide
   omega
  ·have e3:(3:Int)^(2+1)=27:=by decide
   omega
 ·have:=hy.1.hgt;omega
theorem num_mono:∀n (k:Int),Le (FR_1 n k) (FR_1 (n+1) k)
 | 0,k=>by rw [FR_1];exact Le.non
 | n+1,k=>by
  have ih:=num_mono n
  rw [FR_1,FR_1]
  (repeat' (with_reducible first|exact Le.refl|assumption|exact ih _|(refine Le.bind ?_ fun _=>?_)|(refine Le.chk ?_)|(refine Le.cond ?_ ?_)))
theorem num_small {n:Int} (h0:0≤n) (h1:n<10):F_1 n=some [u8 (48+((u8 n).toNat:Int))]:=by
 refine Ok.eq (Ok.lim (f:=fun m=>FR_1 m n) (fun m=>num_mono m n) 1 ?_)
 rw [FR_1]
 exact Ok.ite (fun _=>Ok.ret rfl) fun f=>absurd h1 (of_decide_eq_false f)
end Go.Ab
namespace Go.Ab
open Go.Proofs
theorem at_take {α:Type} [Inhabited α] {l:List α} {n:Nat} (h:n<l.length):∃k,k∈l∧l.getD n default=k∧l.take (n+1)=l.take n++[k] :=
 ⟨l[n],List.getElem_mem h,by rw [List.getD_eq_getElem?_getD,List.getElem?_eq_getElem h];rfl,List.take_succ_eq_append_getElem h⟩
theorem rcount_ok:∀(x:GTerm) (m:Nat) (h:Int),x.hgt≤m→0≤h→h≤60→Ok (FR_c m x h) (·=min (h+x.cnt) 61):=by
 refine GTerm.ind fun x ih m h hm h0 h1=>?_
 obtain ⟨m,rfl⟩:∃n,m=n+1:=⟨m - 1,by have:=hgt_pos x;omega⟩
 rw [FR_c]
 refine Ok.chk (in64_s (by omega) (by omega)) (Ok.bind (Ok.loop (Q:=fun r=>r=min (h+x.cnt) 61) (fun s:Int×Int=>∃n:Nat,s.2=(n:Int)∧n≤x.Kids.length∧(n:Int)≤61∧(n:Int)≤s.1∧s.1=min (h+1+GTerm.cnts (x.Kids.take n)) 61) (fun s=>(x.Kids.length - s.2).toNat) (fun s hs=>?_) _ ⟨0,rfl,by omega,by omega,by dsimp only;omega,by simp [GTerm.cnts];omega⟩) fun r hr=>Ok.ret hr)
 obtain ⟨s,i⟩:=s
 obtain ⟨n,e,h2,h3,h5,h4⟩:=hs
 dsimp only at e h4 h5
 subst e
 refine Ok.grp (Ok.ite (fun c=>?_) fun c=>?_)
 ·simp only [Bool.and_eq_true,decide_eq_true_eq] at c
  obtain ⟨k,hk,hg,ht⟩:=at_take (l:=x.Kids) (n:=n) (by omega)
  have hp:=cnt_pos k
  have hc:GTerm.cnts (x.Kids.take (n+1))=GTerm.cnts (x.Kids.take n)+k.cnt:=by rw [ht,cnts_append];simp [GTerm.cnts]
  have hl:=cnts_len (x.Kids.take n)
  refine Ok.chk (inb_iff.2 ⟨by dsimp only;omega,by dsimp only;omega⟩) ?_
  dsimp only
  rw [Int.toNat_natCast,hg]
  refine Ok.bind (ih k hk m s (by have:=kid_hgt hk;omega) (by omega) (by omega)) fun y hy=>Ok.chk (in64_s (by omega) (by omega)) (Ok.ret ⟨⟨n+1,rfl,by omega,by omega,by dsimp only;omega,?_⟩,by dsimp only;omega⟩)
  dsimp only
  rw [hc,hy];omega
 ·have c':¬((n:Int)<x.Kids.length∧s≤60):=by simpa only [Bool.and_eq_true,decide_eq_true_eq,←Bool.not_eq_true] using c
  refine Ok.ret ?_
  show s=_
  rw [cnt_eq]
  by_cases e:n=x.Kids.length
  ·subst e;rw [List.take_length] at h4;omega
  ·have hs:GTerm.cnts x.Kids=GTerm.cnts (x.Kids.take n)+GTerm.cnts (x.Kids.drop n):=by rw [←cnts_append,List.take_append_drop]
   have:=cnts_len (x.Kids.drop n)
   omega
theorem rcount_eq (x:GTerm):F_c x 0=some (min x.cnt 61):=lim_of ⟨x.hgt,fun m hm=>by
 have:=(rcount_ok x m 0 hm (by omega) (by omega)).eq
 rwa [Int.zero_add] at this⟩
theorem rdepth_ok:∀(x:GTerm) (m:Nat),x.hgt≤m→x.cnt≤1000→Ok (FR_d m x) (·=(x.hgt:Int)):=by
 refine GTerm.ind fun x ih m hm hc=>?_
 obtain ⟨m,rfl⟩:∃n,m=n+1:=⟨m - 1,by have:=hgt_pos x;omega⟩
 have hkl:=kids_cnt x
 have hh:=hgt_cnt x
 rw [FR_d]
 refine Ok.bind (Ok.loop (Q:=fun r=>r=(GTerm.hgts x.Kids:Int)) (fun s:Int×Int=>∃n:Nat,s.2=(n:Int)∧n≤x.Kids.length∧s.1=(GTerm.hgts (x.Kids.take n):Int)) (fun s=>(x.Kids.length - s.2).toNat) (fun s hs=>?_) _ ⟨0,rfl,by omega,by simp [GTerm.hgts]⟩) fun r hr=>?_
 ·obtain ⟨s,i⟩:=s
  obtain ⟨n,e,h2,h4⟩:=hs
  dsimp only at e h4
  subst e
  refine Ok.ite (fun c=>?_) fun c=>?_
  ·have c:(n:Int)<x.Kids.length:=of_decide_eq_true c
   obtain ⟨k,hk,hg,ht⟩:=at_take (l:=x.Kids) (n:=n) (by omega)
   refine Ok.chk (inb_iff.2 ⟨by dsimp only;omega,c⟩) ?_
   dsimp only
   rw [Int.toNat_natCast,hg]
   refine Ok.bind (ih k hk m (by have:=kid_hgt hk;omega) (by have:=kid_cnt hk;omega)) fun y hy=>Ok.chk (in64_s (by omega) (by omega)) (Ok.ret ⟨⟨n+1,rfl,by omega,?_⟩,by dsimp only;omega⟩)
   dsimp only
   rw [ht,hgts_append,hy,h4];simp only [GTerm.hgts];omega
  ·have c:¬(n:Int)<x.Kids.length:=of_decide_eq_false c
   have e:n=x.Kids.length:=by omega
   subst e
   rw [List.take_length] at h4
   exact Ok.ret h4
 ·have:=hgt_eq x
  exact Ok.chk (in64_s (by omega) (by omega)) (Ok.ret (by omega))
theorem rdepth_eq {x:GTerm} (hc:x.cnt≤1000):F_d x=some (x.hgt:Int):=lim_of ⟨x.hgt,fun m hm=>(rdepth_ok x m hm hc).eq⟩
theorem loop_find {α ρ:Type} [Inhabited α] (l:List α) {step:Int→Option (Fl Int (Sum Unit ρ))} (f:α→Option ρ) (hl:l.length≤9223372036854775807)
  (h:∀n:Nat,n<l.length→step n=some (match f (l.getD n default) with|some y=>.ex (.inr y)|none=>.nx ((n:Int)+1))) (he:step l.length=some (.ex (.inl ()))) :
  loop step 0=some (match findL f l with|some y=>.inr y|none=>.inl ()):=by
 have:∀(k n:Nat),n+k=l.length→loop step n=some (match findL f (l.drop n) with|some y=>.inr y|none=>.inl ()):=by
  intro k
  induction k with
  | zero =>
   intro n hn
   have hn:n=l.length:=by omega
   subst hn
   rw [loop_eq,he,List.drop_length];rfl
  | succ k ih =>
   intro n hn
   rw [loop_eq,h n (by omega)]
   have hd:l.drop n=l.getD n default::l.drop (n+1):=by
    rw [List.getD_eq_getElem?_getD,List.getElem?_eq_getElem (by omega),Option.getD_some,List.drop_eq_getElem_cons (by omega)]
   rw [hd]
   simp only [findL]
   cases f (l.getD n default) with
   | some y=>rfl
   | none =>
    have:=ih (n+1) (by omega)
    exact this
 have:=this l.length 0 (by omega)
 simpa using this
theorem findL_none {α ρ:Type} {f:α→Option ρ}:∀{l:List α},findL f l=none↔∀x∈l,f x=none
 | []=>by simp [findL]
 | a::r=>by
  simp only [findL]
  cases h:f a with
  | some y=>simp [h]
  | none=>simp [h,findL_none (l:=r)]
theorem findL_con {α ρ:Type} {f:α→Option ρ} {v:ρ} (hf:∀x,f x=none∨f x=some v):∀(l:List α),findL f l=none∨findL f l=some v
 | []=>.inl rfl
 | a::r=>by
  simp only [findL]
  rcases hf a with h|h<;>rw [h]
  ·exact findL_con hf r
  ·exact .inr rfl
open Classical in
theorem rquot_eq {s:Str} (hs:s.length≤9223372036854775807):F_1q s=some (decide (qP s)):=by
 refine Ok.eq ?_
 unfold F_1q
 let f:UInt8→Option Bool:=fun c=>if 33≤c.toNat∧c.toNat≤126∧c.toNat≠34 then none else some false
 have hL:=loop_find s (step:=F_23 s) f hs (fun n hn=>by
  have hi:inb (n:Int) s.length=true:=inb_iff.2 ⟨by omega,by omega⟩
  refine Ok.eq ?_
  unfold F_23
  rw [Int.toNat_natCast]
  have hf:f (s.getD n default)=(if 33≤(s.getD n 0).toNat∧(s.getD n 0).toNat≤126∧(s.getD n 0).toNat≠34 then none else some false):=rfl
  rw [hf]
  refine Ok.ite (fun _=>Ok.chk hi (Ok.ite (fun c=>Ok.ret ?_) fun c=>Ok.chk hi (Ok.ite (fun c2=>Ok.ret ?_) fun c2=>Ok.chk hi (Ok.ite (fun c3=>Ok.ret ?_) fun c3=>Ok.chk (in64_iff.2 ⟨by omega,by omega⟩) (Ok.ret ?_))))) fun c=>by have:=of_decide_eq_false c;omega
  ·have c:=of_decide_eq_true c
   rw [if_neg (by omega)]<;>rfl
  ·have c2:=of_decide_eq_true c2
   rw [if_neg (by omega)]<;>rfl
  ·have c3:=of_decide_eq_true c3
   rw [if_neg (by omega)]<;>rfl
  ·have c:=of_decide_eq_false c;have c2:=of_decide_eq_false c2;have c3:=of_decide_eq_false c3
   rw [if_pos (by omega)]<;>rfl) (by
  refine Ok.eq ?_
  unfold F_23
  exact Ok.ite (fun c=>by have:=of_decide_eq_true c;omega) fun _=>Ok.ret rfl)
 rw [hL,Option.bind_some]
 rcases findL_con (f:=f) (v:=false) (fun c=>by show (if _ then none else some false)=none∨(if _ then none else some false)=some false;split<;>simp) s with e|e
 ·have hall:=findL_none.1 e
  have hq:∀c∈s,33≤c.toNat∧c.toNat≤126∧c.toNat≠34:=fun c hc=>Classical.byContradiction fun hn=>by
   have:(if 33≤c.toNat∧c.toNat≤126∧c.toNat≠34 then none else some false)=none:=hall c hc
   rw [if_neg hn] at this;cases this
  rw [e]
  refine Ok.grp (Ok.ret ?_)
  rw [Bool.eq_iff_iff]
  simp only [Bool.and_eq_true,decide_eq_true_eq]
  exact ⟨fun h=>⟨hq,by omega,by omega⟩,fun h=>⟨by have:=h.2.1;omega,by have:=h.2.2;omega⟩⟩
 ·rw [e]
  refine Ok.ret (decide_eq_false fun h=>?_).symm
  have:findL f s=none:=findL_none.2 fun c hc=>if_pos (h.1 c hc)
  rw [this] at e;cases e
def nameP (s:Str):Prop:=(∀c∈s,(97≤c.toNat∧c.toNat≤122)∨(48≤c.toNat∧c.toNat≤57)∨c.toNat=45)∧1≤s.length∧s.length≤40
open Classical in
theorem named_eq (s:Str):F_16 s=some (decide (nameP s)):=by
 refine Ok.eq ?_
 unfold F_16
 refine Ok.bind (Ok.forI (all:=s) (Q:=Fl.elim (fun _=>∀c∈s,(97≤c.toNat∧c.toNat≤122)∨(48≤c.toNat∧c.toNat≤57)∨c.toNat=45) fun r=>r=false∧¬nameP s) (fun pre _=>∀c∈pre,(97≤c.toNat∧c.toNat≤122)∨(48≤c.toNat∧c.toNat≤57)∨c.toNat=45) s [] 0 () rfl rfl (by simp) (fun pre c r _ hw hs=>?_) fun _ hs=>hs) fun o ho=>?_
 ·unfold F_28
  refine Ok.grp (Ok.grp (Ok.grp (Ok.ite (fun c1=>Ok.ret ⟨rfl,fun hq=>?_⟩) fun c1=>Ok.ret ?_)))
  ·have:=hq.1 c (mem_at hw)
   simp only [Bool.or_eq_true,Bool.and_eq_true,Bool.not_eq_true',decide_eq_true_eq,decide_eq_false_iff_not] at c1
   omega
  ·simp only [Bool.or_eq_false_iff,Bool.and_eq_false_iff,Bool.not_eq_false',decide_eq_true_eq,decide_eq_false_iff_not] at c1
   intro d hd
   rcases List.mem_append.1 hd with hd|hd
   ·exact hs d hd
   ·cases List.mem_singleton.1 hd
    omega
 ·cases o with
  | ex r =>
   obtain ⟨rfl,h⟩:=ho
   exact Ok.ret (decide_eq_false h).symm
  | nx u =>
   refine Ok.grp (Ok.ret ?_)
   rw [Bool.eq_iff_iff]
   simp only [Bool.and_eq_true,decide_eq_true_eq]
   exact ⟨fun h=>⟨ho,by omega,by omega⟩,fun h=>⟨by have:=h.2.1;omega,by have:=h.2.2;omega⟩⟩
inductive Lens:GTerm→Prop
 | mk (x:GTerm) (h1:x.Text.length≤9223372036854775807) (h2:x.Kids.length≤9223372036854775807) (hk:∀k∈x.Kids,Lens k):Lens x
theorem Lens.tl {x:GTerm} (h:Lens x):x.Text.length≤9223372036854775807:=by cases h;assumption
theorem Lens.kl {x:GTerm} (h:Lens x):x.Kids.length≤9223372036854775807:=by cases h;assumption
theorem Lens.kid {x k:GTerm} (h:Lens x) (hk:k∈x.Kids):Lens k:=by cases h with|mk _ _ _ h=>exact h k hk
theorem Rgt.lens {x:GTerm} (h:Rgt x) (hc:x.cnt≤1000):Lens x:=by
 induction h with
 | mk x ho hk ih =>
  have hkl:=kids_cnt x
  refine .mk x ?_ (by omega) fun k hm=>ih k hm (by have:=kid_cnt hm;omega)
  rcases ho with h|h|h|h
  ·have:=h.2.1.2.2;omega
  ·rw [h.2.1];simp
  ·rw [h.2.1];simp
  ·rw [h.2.1];simp
open Classical in
theorem rright_ok:∀(x:GTerm) (m:Nat),x.hgt≤m→x.cnt≤1000→Lens x→Ok (FR_e m x) (·=decide (Rgt x)):=by
 refine GTerm.ind fun x ih m hm hc hL=>?_
 obtain ⟨m,rfl⟩:∃n,m=n+1:=⟨m - 1,by have:=hgt_pos x;omega⟩
 have hkl:=kids_cnt x
 rw [FR_e]
 refine Ok.jn (P:=fun b=>b=decide (okN x)) ?_ fun b hb=>?_
 ·refine Ok.jn (P:=fun b=>b=decide (x.Op=1∨x.Op=2∨x.Op=3)) (Ok.ite (fun c=>Ok.ret (by simpa using .inl (of_decide_eq_true c))) fun c=>Ok.ite (fun c2=>Ok.ret (by simpa using .inr (.inl (of_decide_eq_true c2)))) fun c2=>Ok.ret (by simp at c c2;simp [c,c2])) fun b hb=>?_
  subst hb
  refine Ok.ite (fun c=>?_) fun c=>?_
  ·have c:=of_decide_eq_true c
   rw [rquot_eq hL.tl,Option.bind_some]
   refine Ok.grp (Ok.grp (Ok.grp (Ok.ret ?_)))
   rw [Bool.eq_iff_iff]
   simp only [Bool.and_eq_true,decide_eq_true_eq,len0]
   constructor
   ·rintro ⟨⟨⟨h1,h2⟩,h3⟩,h4⟩;exact .inl ⟨c,h1,h2,h3,h4⟩
   ·rintro (h|⟨h,_⟩|⟨h,_⟩|⟨h,_⟩)
    ·exact ⟨⟨⟨h.2.1,h.2.2.1⟩,h.2.2.2.1⟩,h.2.2.2.2⟩
    all_goals omega
  ·have c:=of_decide_eq_false c
   refine Ok.jn (P:=fun b=>b=decide (x.Op=4∨x.Op=5∨x.Op=6∨x.Op=8)) (Ok.ite (fun c=>Ok.ret (by simpa using .inl (of_decide_eq_true c))) fun c=>Ok.ite (fun c2=>Ok.ret (by simpa using .inr (.inl (of_decide_eq_true c2)))) fun c2=>Ok.ite (fun c3=>Ok.ret (by simpa using .inr (.inr (.inl (of_decide_eq_true c3))))) fun c3=>Ok.ret (by simp at c c2 c3;simp [c,c2,c3])) fun b hb=>?_
   subst hb
   refine Ok.ite (fun c1=>?_) fun c1=>?_
   ·have c1:=of_decide_eq_true c1
    refine Ok.grp (Ok.grp (Ok.grp (Ok.grp (Ok.ret ?_))))
    rw [Bool.eq_iff_iff]
    simp only [Bool.and_eq_true,decide_eq_true_eq,len0]
    constructor
    ·rintro ⟨⟨⟨⟨h1,h2⟩,h3⟩,h4⟩,h5⟩;exact .inr (.inl ⟨c1,h1,h2,h3,h4,h5⟩)
    ·rintro (⟨h,_⟩|h|⟨h,_⟩|⟨h,_⟩)
     ·omega
     ·exact ⟨⟨⟨⟨h.2.1,h.2.2.1⟩,h.2.2.2.1⟩,h.2.2.2.2.1⟩,h.2.2.2.2.2⟩
     all_goals omega
   ·have c1:=of_decide_eq_false c1
    refine Ok.ite (fun c2=>?_) fun c2=>?_
    ·have c2:=of_decide_eq_true c2
     refine Ok.grp (Ok.grp (Ok.ret ?_))
     rw [Bool.eq_iff_iff]
     simp only [Bool.and_eq_true,decide_eq_true_eq,len0]
     constructor
     ·rintro ⟨⟨h1,h2⟩,h3⟩;exact .inr (.inr (.inl ⟨c2,h1,h2,h3⟩))
     ·rintro (⟨h,_⟩|⟨h,_⟩|h|⟨h,_⟩)
      ·omega
      ·omega
      ·exact ⟨⟨h.2.1,h.2.2.1⟩,h.2.2.2⟩
      ·omega
    ·have c2:=of_decide_eq_false c2
     refine Ok.ite (fun c9=>?_) fun c9=>?_
     ·have c9:=of_decide_eq_true c9
      refine Ok.grp (Ok.grp (Ok.grp (Ok.ret ?_)))
      rw [Bool.eq_iff_iff]
      simp only [Bool.and_eq_true,decide_eq_true_eq]
      constructor
      ·rintro ⟨⟨⟨h1,h2⟩,h3⟩,h4⟩
       exact .inr (.inr (.inr ⟨.inl c9,h1,h2,h3,.inl ⟨c9,by omega⟩⟩))
      ·rintro (⟨h,_⟩|⟨h,_⟩|⟨h,_⟩|h)
       ·omega
       ·omega
       ·omega
       ·refine ⟨⟨⟨h.2.1,h.2.2.1⟩,h.2.2.2.1⟩,?_⟩
        rcases h.2.2.2.2 with h4|h4
        ·omega
        ·exact absurd c9 h4.1
     ·have c9:=of_decide_eq_false c9
      refine Ok.jn (P:=fun b=>b=decide (x.Op=10∨x.Op=11)) (Ok.ite (fun c=>Ok.ret (by simpa using .inl (of_decide_eq_true c))) fun c=>Ok.ret (by simp at c;simp [c])) fun b hb=>?_
      subst hb
      refine Ok.ite (fun c3=>?_) fun c3=>?_
      ·have c3:=of_decide_eq_true c3
       refine Ok.grp (Ok.grp (Ok.grp (Ok.ret ?_)))
       rw [Bool.eq_iff_iff]
       simp only [Bool.and_eq_true,decide_eq_true_eq]
       constructor
       ·rintro ⟨⟨⟨h1,h2⟩,h3⟩,h4⟩
        exact .inr (.inr (.inr ⟨.inr c3,h1,h2,h3,.inr ⟨c9,by omega⟩⟩))
       ·rintro (⟨h,_⟩|⟨h,_⟩|⟨h,_⟩|h)
        ·omega
        ·omega
        ·omega
        ·refine ⟨⟨⟨h.2.1,h.2.2.1⟩,h.2.2.2.1⟩,?_⟩
         rcases h.2.2.2.2 with h4|h4
         ·exact absurd h4.1 c9
         ·omega
      ·have c3:=of_decide_eq_false c3
       refine Ok.ret (decide_eq_false ?_).symm
       rintro (⟨h,_⟩|⟨h,_⟩|⟨h,_⟩|⟨h,_⟩)<;>omega
 ·subst hb
  refine Ok.bind (Ok.loop (Q:=fun r=>r=decide (Rgt x)) (fun s:Bool×Int=>∃n:Nat,s.2=(n:Int)∧n≤x.Kids.length∧s.1=decide (okN x∧∀k∈x.Kids.take n,Rgt k)) (fun s=>(x.Kids.length - s.2).toNat) (fun s hs=>?_) _ ⟨0,rfl,by omega,by simp⟩) fun r hr=>Ok.ret hr
  obtain ⟨s,i⟩:=s
  obtain ⟨n,e,h2,h4⟩:=hs
  dsimp only at e h4
  subst e
  refine Ok.grp (Ok.ite (fun c=>?_) fun c=>?_)
  ·simp only [Bool.and_eq_true,decide_eq_true_eq] at c
   have hs:okN x∧∀k∈x.Kids.take n,Rgt k:=by rw [c.2] at h4;exact of_decide_eq_true h4.symm
   obtain ⟨k,hk,hg,ht⟩:=at_take (l:=x.Kids) (n:=n) (by omega)
   refine Ok.chk (inb_iff.2 ⟨by dsimp only;omega,by dsimp only;omega⟩) ?_
   dsimp only
   rw [Int.toNat_natCast,hg]
   refine Ok.bind (ih k hk m (by have:=kid_hgt hk;omega) (by have:=kid_cnt hk;omega) (hL.kid hk)) fun y hy=>Ok.chk (in64_s (by omega) (by omega)) (Ok.ret ⟨⟨n+1,rfl,by omega,?_⟩,by dsimp only;omega⟩)
   dsimp only
   rw [hy,ht,decide_eq_decide]
   constructor
   ·intro h
    refine ⟨hs.1,fun q hq=>?_⟩
    rcases List.mem_append.1 hq with hq|hq
    ·exact hs.2 q hq
    ·cases List.mem_singleton.1 hq;exact h
   ·exact fun h=>h.2 k (by simp)
  ·refine Ok.ret ?_
   show s=_
   by_cases e:s=true
   ·have:¬(n:Int)<x.Kids.length:=fun h=>by simp [h,e] at c
    have en:n=x.Kids.length:=by omega
    subst en
    rw [List.take_length] at h4
    rw [h4,decide_eq_decide]
    exact ⟨fun h=>.mk x h.1 h.2,fun h=>⟨h.ok,fun k hk=>h.kid hk⟩⟩
   ·have e:s=false:=by simpa using e
    rw [e] at h4 ⊢
    have h4:=of_decide_eq_false h4.symm
    rw [eq_comm,decide_eq_false_iff_not]
    exact fun h=>h4 ⟨h.ok,fun k hk=>h.kid (List.mem_of_mem_take hk)⟩
open Classical in
theorem rright_eq {x:GTerm} (hc:x.cnt≤1000) (hL:Lens x):F_e x=some (decide (Rgt x)):=lim_of ⟨x.hgt,fun m hm=>(rright_ok x m hm hc hL).eq⟩
open Classical in
theorem rterm_eq {x:GTerm} (hL:Lens x):F_1r x=some x.err:=by
 refine Ok.eq ?_
 unfold F_1r GTerm.err
 rw [rcount_eq,Option.bind_some]
 refine Ok.ite (fun c=>Ok.ret (by rw [if_pos (by have:=of_decide_eq_true c;omega)])) fun c=>?_
 have c:=of_decide_eq_false c
 rw [if_neg (by omega),rdepth_eq (by omega),Option.bind_some]
 refine Ok.ite (fun c=>Ok.ret (by rw [if_pos (by have:=of_decide_eq_true c;omega)])) fun c=>?_
 have c:=of_decide_eq_false c
 rw [if_neg (by omega),rright_eq (by omega) hL,Option.bind_some]
 refine Ok.ite (fun c=>Ok.ret (by rw [if_pos (by simpa using c)])) fun c=>Ok.ret (by rw [if_neg (by simpa using c)])
open Classical in
theorem rname_eq {s:Str} (hs:s.length≤9223372036854775807):F_1p s=some (decide (nameP s)):=by
 refine Ok.eq ?_
 unfold F_1p
 let f:UInt8→Option Bool:=fun c=>if (97≤c.toNat∧c.toNat≤122)∨(48≤c.toNat∧c.toNat≤57)∨c.toNat=45 then none else some false
 have hL:=loop_find s (step:=F_22 s) f hs (fun n hn=>by
  have hi:inb (n:Int) s.length=true:=inb_iff.2 ⟨by omega,by omega⟩
  have hf:f (s.getD n default)=(if (97≤(s.getD n 0).toNat∧(s.getD n 0).toNat≤122)∨(48≤(s.getD n 0).toNat∧(s.getD n 0).toNat≤57)∨(s.getD n 0).toNat=45 then none else some false):=rfl
  refine Ok.eq ?_
  unfold F_22
  rw [Int.toNat_natCast,hf]
  generalize (s.getD n 0).toNat=c
  refine Ok.ite (fun _=>?_) fun h=>by have:=of_decide_eq_false h;omega
  refine Ok.jn (P:=fun o=>o=if (97≤c∧c≤122)∨(48≤c∧c≤57)∨c=45 then .nx () else .ex false) (Ok.chk hi (Ok.ite (fun c1=>?_) fun c1=>Ok.chk hi ?_)) fun o ho=>?_
  ·have c1:=of_decide_eq_true c1
   refine Ok.jn (P:=fun j=>j.2.2.2.2.2.2=decide (c<48∨57<c)) (Ok.chk hi (Ok.ite (fun c2=>Ok.ret ?_) fun c2=>Ok.chk hi (Ok.ret ?_))) fun j hj=>?_
   ·exact (decide_eq_true (.inl (by have:=of_decide_eq_true c2;omega))).symm
   ·have c2:=of_decide_eq_false c2
    exact decide_eq_decide.2 ⟨fun h=>.inr (by omega),fun h=>by omega⟩
   ·rw [hj]
    refine Ok.jn (P:=fun b=>b=decide ((c<48∨57<c)∧c≠45)) (Ok.ite (fun c2=>Ok.chk hi (Ok.ret ?_)) fun c2=>Ok.ret ?_) fun b hb=>?_
    ·have c2:=of_decide_eq_true c2
     rw [Bool.eq_iff_iff];simp;omega
    ·have c2:=of_decide_eq_false c2
     exact (decide_eq_false fun h=>c2 h.1).symm
    ·subst hb
     refine Ok.ite (fun c3=>Ok.ret ?_) fun c3=>Ok.ret ?_
     ·have c3:=of_decide_eq_true c3
      rw [if_neg (by omega)]
     ·have c3:=of_decide_eq_false c3
      rw [if_pos (by omega)]
  ·have c1:=of_decide_eq_false c1
   refine Ok.jn (P:=fun b=>b=decide (122<c∧(c<48∨57<c))) (Ok.ite (fun c2=>Ok.chk hi (Ok.ite (fun c3=>Ok.ret ?_) fun c3=>Ok.chk hi (Ok.ret ?_))) fun c2=>Ok.ret ?_) fun b hb=>?_
   ·have c2:=of_decide_eq_true c2;have c3:=of_decide_eq_true c3
    exact (decide_eq_true (by omega)).symm
   ·have c2:=of_decide_eq_true c2;have c3:=of_decide_eq_false c3
    exact decide_eq_decide.2 ⟨fun h=>by omega,fun h=>by omega⟩
   ·have c2:=of_decide_eq_false c2
    exact (decide_eq_false (by omega)).symm
   ·subst hb
    refine Ok.jn (P:=fun b=>b=decide ((122<c∧(c<48∨57<c))∧c≠45)) (Ok.ite (fun c2=>Ok.chk hi (Ok.ret ?_)) fun c2=>Ok.ret ?_) fun b hb=>?_
    ·have c2:=of_decide_eq_true c2
     rw [Bool.eq_iff_iff];simp;omega
    ·have c2:=of_decide_eq_false c2
     exact (decide_eq_false fun h=>c2 h.1).symm
    ·subst hb
     refine Ok.ite (fun c3=>Ok.ret ?_) fun c3=>Ok.ret ?_
     ·have c3:=of_decide_eq_true c3
      rw [if_neg (by omega)]
     ·have c3:=of_decide_eq_false c3
      rw [if_pos (by omega)]
  ·subst ho
   by_cases g:(97≤c∧c≤122)∨(48≤c∧c≤57)∨c=45
   ·rw [if_pos g,if_pos g,Fl_nx]
    have h64:in64 ((n:Int)+1)=true:=in64_iff.2 ⟨by omega,by omega⟩
    exact Ok.chk h64 (Ok.ret rfl)
   ·rw [if_neg g,if_neg g,Fl_ex]
    exact Ok.ret rfl) (by
  refine Ok.eq ?_
  unfold F_22
  exact Ok.ite (fun c=>by have:=of_decide_eq_true c;omega) fun _=>Ok.ret rfl)
 rw [hL,Option.bind_some]
 rcases findL_con (f:=f) (v:=false) (fun c=>by show (if _ then none else some false)=none∨(if _ then none else some false)=some false;split<;>simp) s with e|e
 ·have hall:=findL_none.1 e
  have hq:∀c∈s,(97≤c.toNat∧c.toNat≤122)∨(48≤c.toNat∧c.toNat≤57)∨c.toNat=45:=fun c hc=>Classical.byContradiction fun hn=>by
   have:(if (97≤c.toNat∧c.toNat≤122)∨(48≤c.toNat∧c.toNat≤57)∨c.toNat=45 then none else some false)=none:=hall c hc
   rw [if_neg hn] at this;cases this
  rw [e]
  refine Ok.grp (Ok.ret ?_)
  rw [Bool.eq_iff_iff]
  simp only [Bool.and_eq_true,decide_eq_true_eq]
  exact ⟨fun h=>⟨hq,by omega,by omega⟩,fun h=>⟨by have:=h.2.1;omega,by have:=h.2.2;omega⟩⟩
 ·rw [e]
  refine Ok.ret (decide_eq_false fun h=>?_).symm
  have:findL f s=none:=findL_none.2 fun c hc=>if_pos (h.1 c hc)
  rw [this] at e;cases e
end Go.Ab
namespace Go.Ab
open Go.Proofs
open Classical in
noncomputable def rchk (r:GRule):Int:=if ¬nameP r.Name then 4 else if r.When.err≠0 then r.When.err else if r.Verdict≠1∧r.Verdict≠2 then 1 else 0
theorem check_eq (r:GRule):F_10 r=some (rchk r):=by
 classical
 refine Ok.eq ?_
 unfold F_10 rchk
 rw [named_eq,Option.bind_some]
 refine Ok.ite (fun c=>Ok.ret (by rw [if_pos (by simpa using c)])) fun c=>?_
 rw [if_neg (by simpa using c),term_eq,Option.bind_some]
 refine Ok.ite (fun c=>Ok.ret (by rw [if_pos (by simpa using c)])) fun c=>?_
 rw [if_neg (by simpa using c)]
 refine Ok.grp (Ok.ite (fun c=>Ok.ret (by rw [if_pos (by simpa using c)])) fun c=>Ok.ret (by rw [if_neg (fun h=>by simp [h.1,h.2] at c)]))
open Classical in
noncomputable def fchk (r:GRule):Option Int:=if rchk r=0 then none else some (rchk r)
theorem fchk_some {r:GRule} {v:Int} (h:rchk r=v) (hv:v≠0):fchk r=some v:=by
 unfold fchk;rw [if_neg (by rw [h];exact hv),h]
theorem fchk_none {r:GRule} (h:rchk r=0):fchk r=none:=by
 unfold fchk;rw [if_pos h]
theorem rchk_n {r:GRule} (h:¬nameP r.Name):rchk r=4:=by
 unfold rchk;rw [if_pos h]
theorem rchk_e {r:GRule} (h:nameP r.Name) (h2:r.When.err≠0):rchk r=r.When.err:=by
 unfold rchk;rw [if_neg (fun k=>k h),if_pos h2]
theorem rchk_v {r:GRule} (h:nameP r.Name) (h2:r.When.err=0) (h3:r.Verdict≠1∧r.Verdict≠2):rchk r=1:=by
 unfold rchk;rw [if_neg (fun k=>k h),if_neg (fun k=>k h2),if_pos h3]
theorem rchk_o {r:GRule} (h:nameP r.Name) (h2:r.When.err=0) (h3:¬(r.Verdict≠1∧r.Verdict≠2)):rchk r=0:=by
 unfold rchk;rw [if_neg (fun k=>k h),if_neg (fun k=>k h2),if_neg h3]
def uniq (l:List GRule):Prop:=(l.map GRule.Name).Nodup
open Classical in
noncomputable def verr (l:List GRule):Int:=if 40<l.length then 3 else match findL fchk l with|some e=>e|none=>if uniq l then 0 else 7
theorem uniq_snoc {l:List GRule} {x:GRule}:uniq (l++[x])↔uniq l∧∀o∈l,o.Name≠x.Name:=by
 unfold uniq
 rw [List.map_append,List.nodup_append]
 constructor
 ·rintro ⟨h1,_,h3⟩
  exact ⟨h1,fun o ho=>h3 _ (List.mem_map_of_mem ho) _ (by simp)⟩
 ·rintro ⟨h1,h2⟩
  refine ⟨h1,by simp,fun a ha b hb=>?_⟩
  obtain ⟨o,ho,rfl⟩:=List.mem_map.1 ha
  have:b=x.Name:=by simpa using hb
  subst this
  exact h2 o ho
theorem uniq_pre {a b:List GRule} (h:uniq (a++b)):uniq a:=by
 unfold uniq at h ⊢
 rw [List.map_append,List.nodup_append] at h
 exact h.1
open Classical in
theorem valid_eq (l:List GRule):F_t l=some (verr l):=by
 refine Ok.eq ?_
 unfold F_t verr
 refine Ok.ite (fun c=>Ok.ret (by rw [if_pos (by have:=of_decide_eq_true c;omega)])) fun c=>?_
 have c:=of_decide_eq_false c
 rw [if_neg (by omega)]
 have h1:forL F_17 l 0 ()=some (flO (findL fchk l)):=forL_find fchk l 0 fun k r _=>by
  unfold F_17
  rw [check_eq,Option.bind_some]
  unfold fchk
  by_cases e:rchk r=0
  ·rw [if_pos e,e];rfl
  ·rw [if_neg e,decide_eq_false e];rfl
 rw [h1,Option.bind_some]
 cases findL fchk l with
 | some e=>exact Ok.ret rfl
 | none =>
  show Ok ((forL (F_18 l) l 0 ()).bind _) _
  refine Ok.bind (Ok.forI (all:=l) (Q:=Fl.elim (fun _=>uniq l) fun r=>r=7∧¬uniq l) (fun pre _=>uniq pre) l [] 0 () rfl rfl (by simp [uniq]) (fun pre x r _ hw hs=>?_) fun _ hs=>hs) fun o ho=>?_
  ·unfold F_18
   have ht:l.take ((pre.length:Int)).toNat=pre:=by rw [Int.toNat_natCast,hw];simp
   rw [ht]
   have hc:F_1d pre x=some (decide (∃o∈pre,o.Name=x.Name)) :=
    contains_b (body:=F_1z x) (fun o:GRule=>o.Name=x.Name) pre fun k y _=>by
     by_cases c:y.Name=x.Name<;>simp [F_1z,F_1y,c]
   rw [hc]
   refine Ok.chk (inc_iff.2 ⟨by omega,by omega,by have:=len_at hw;omega⟩) ?_
   rw [Option.bind_some]
   refine Ok.ite (fun c=>Ok.ret ⟨rfl,fun hu=>?_⟩) fun c=>Ok.ret ?_
   ·obtain ⟨o,ho,e⟩:=of_decide_eq_true c
    rw [hw,show pre++x::r=(pre++[x])++r by simp] at hu
    exact (uniq_snoc.1 (uniq_pre hu)).2 o ho e
   ·have c:=of_decide_eq_false c
    exact uniq_snoc.2 ⟨hs,fun o ho e=>c ⟨o,ho,e⟩⟩
  ·cases o with
   | nx u =>
    have ho:uniq l:=ho
    exact Ok.ret (by rw [if_pos ho])
   | ex r =>
    obtain ⟨rfl,ho⟩:=ho
    exact Ok.ret (by rw [if_neg ho])
structure LensR (r:GRule):Prop where
 n:r.Name.length≤9223372036854775807
 w:Lens r.When
open Classical in
theorem rvalid_eq {l:List GRule} (hl:∀r∈l,LensR r):F_1s l=some (verr l):=by
 refine Ok.eq ?_
 unfold F_1s verr
 refine Ok.ite (fun c=>Ok.ret (by rw [if_pos (by have:=of_decide_eq_true c;omega)])) fun c=>?_
 have c:=of_decide_eq_false c
 rw [if_neg (by omega)]
 have h1:=loop_find l (step:=F_24 l) fchk (by omega) (fun n hn=>by
  have hi:inb (n:Int) l.length=true:=inb_iff.2 ⟨by omega,by omega⟩
  obtain ⟨r,hr,hg,_⟩:=at_take hn
  refine Ok.eq ?_
  unfold F_24
  rw [Int.toNat_natCast,hg]
  refine Ok.ite (fun _=>Ok.chk hi ?_) fun h=>by have:=of_decide_eq_false h;omega
  rw [rname_eq (hl r hr).n,Option.bind_some]
  refine Ok.ite (fun c=>Ok.ret ?_) fun c=>Ok.chk hi ?_
  ·have c:¬nameP r.Name:=by simpa using c
   rw [fchk_some (rchk_n c) (by decide)]
  ·have cn:nameP r.Name:=by simpa using c
   rw [rterm_eq (hl r hr).w,Option.bind_some]
   refine Ok.ite (fun c=>Ok.ret ?_) fun c=>Ok.chk hi ?_
   ·have c:r.When.err≠0:=by simpa using c
    rw [fchk_some (rchk_e cn c) c]
   ·have ce:r.When.err=0:=by simpa using c
    refine Ok.jn (P:=fun b=>b=decide (r.Verdict≠1∧r.Verdict≠2)) (Ok.ite (fun c1=>Ok.chk hi (Ok.ret ?_)) fun c1=>Ok.ret ?_) fun b hb=>?_
    ·have c1:r.Verdict≠1:=by simpa using c1
     rw [Bool.eq_iff_iff];simp [c1]
    ·have c1:r.Verdict=1:=by simpa using c1
     simp [c1]
    ·subst hb
     refine Ok.ite (fun c2=>Ok.ret ?_) fun c2=>Ok.chk (in64_s (by omega) (by omega)) (Ok.ret ?_)
     ·rw [fchk_some (rchk_v cn ce (of_decide_eq_true c2)) (by decide)]
     ·rw [fchk_none (rchk_o cn ce (of_decide_eq_false c2))]) (by
  refine Ok.eq ?_
  unfold F_24
  exact Ok.ite (fun c=>by have:=of_decide_eq_true c;omega) fun _=>Ok.ret rfl)
 rw [h1,Option.bind_some]
 cases findL fchk l with
 | some e=>exact Ok.ret rfl
 | none =>
  rw [Sum_inl]
  refine Ok.bind (Ok.loop (Q:=fun r=>(r=.inl ()∧uniq l)∨(r=.inr 7∧¬uniq l)) (fun i:Int=>0≤i∧i≤l.length∧uniq (l.take i.toNat)) (fun i=>((l.length:Int) - i).toNat) (fun i hi=>?_) 0 ⟨by omega,by omega,by simp [uniq]⟩) fun r hr=>?_
  ·obtain ⟨i0,i1,i2⟩:=hi
   obtain ⟨n,rfl⟩:=Int.eq_ofNat_of_zero_le i0
   rw [Int.toNat_natCast] at i2
   unfold F_2j
   refine Ok.ite (fun d=>?_) fun d=>Ok.ret (.inl ⟨rfl,?_⟩)
   ·have d:=of_decide_eq_true d
    obtain ⟨x,hx,hg,ht⟩:=at_take (l:=l) (n:=n) (by omega)
    have hi:inb (n:Int) l.length=true:=inb_iff.2 ⟨by omega,d⟩
    refine Ok.bind (Ok.loop (Q:=fun r=>(r=.inl ()∧∀o∈l.take n,o.Name≠x.Name)∨(r=.inr 7∧∃o∈l.take n,o.Name=x.Name)) (fun k:Int=>0≤k∧k≤n∧∀o∈l.take k.toNat,o.Name≠x.Name) (fun k=>((n:Int) - k).toNat) (fun k hk=>?_) 0 ⟨by omega,by omega,by simp⟩) fun r hr=>?_
    ·obtain ⟨k0,k1,k2⟩:=hk
     obtain ⟨p,rfl⟩:=Int.eq_ofNat_of_zero_le k0
     rw [Int.toNat_natCast] at k2
     unfold F_2i
     refine Ok.ite (fun e=>?_) fun e=>Ok.ret (.inl ⟨rfl,?_⟩)
     ·have e:=of_decide_eq_true e
      obtain ⟨y,hy,hg2,ht2⟩:=at_take (l:=l) (n:=p) (by omega)
      refine Ok.chk hi (Ok.chk (inb_iff.2 ⟨by omega,by omega⟩) ?_)
      rw [Int.toNat_natCast,Int.toNat_natCast,hg,hg2]
      refine Ok.ite (fun g=>Ok.ret (.inr ⟨rfl,y,?_,(of_decide_eq_true g).symm⟩)) fun g=>Ok.chk (in64_s (by omega) (by omega)) (Ok.ret ⟨⟨by omega,by omega,?_⟩,by omega⟩)
      ·have:y∈l.take (p+1):=by rw [ht2];simp
       exact List.take_subset_take_left _ (by omega) this
      ·rw [show ((p:Int)+1).toNat=p+1 by omega,ht2]
       intro o ho
       rcases List.mem_append.1 ho with ho|ho
       ·exact k2 o ho
       ·cases List.mem_singleton.1 ho
        exact fun h=>(of_decide_eq_false g) h.symm
     ·have e:=of_decide_eq_false e
      have:p=n:=by omega
      subst this
      exact k2
    ·rcases hr with ⟨rfl,h⟩|⟨rfl,o,ho,h⟩
     ·rw [Sum_inl]
      refine Ok.chk (in64_s (by omega) (by omega)) (Ok.ret ⟨⟨by omega,by omega,?_⟩,by omega⟩)
      rw [show ((n:Int)+1).toNat=n+1 by omega,ht]
      exact uniq_snoc.2 ⟨i2,h⟩
     ·rw [Sum_inr]
      refine Ok.ret (.inr ⟨rfl,fun hu=>?_⟩)
      have hu':uniq (l.take (n+1)):=uniq_pre (b:=l.drop (n+1)) (by rw [List.take_append_drop];exact hu)
      rw [ht] at hu'
      exact (uniq_snoc.1 hu').2 o ho h
   ·have d:=of_decide_eq_false d
    have:n=l.length:=by omega
    subst this
    rw [List.take_length] at i2
    exact i2
  ·rcases hr with ⟨rfl,h⟩|⟨rfl,h⟩
   ·rw [Sum_inl];exact Ok.ret (by rw [if_pos h])
   ·rw [Sum_inr];exact Ok.ret (by rw [if_neg h])
structure VR' (l:List GRule):Prop where
 n:l.length≤40
 r:∀r∈l,nameP r.Name∧PV r.When∧(r.Verdict=1∨r.Verdict=2)
 u:uniq l
theorem rchk_zero {r:GRule}:rchk r=0↔nameP r.Name∧PV r.When∧(r.Verdict=1∨r.Verdict=2):=by
 classical
 unfold rchk
 constructor
 ·intro h
  split at h
  ·omega
  ·split at h
   ·rename_i h2;exact absurd h h2
   ·split at h
    ·omega
    ·rename_i h1 h2 h3
     exact ⟨Classical.byContradiction h1,err_zero.1 (Classical.byContradiction h2),by omega⟩
 ·rintro ⟨h1,h2,h3⟩
  rw [if_neg (fun h=>h h1),if_neg (fun h=>h (err_zero.2 h2)),if_neg (by omega)]
theorem verr_zero {l:List GRule}:verr l=0↔VR' l:=by
 classical
 unfold verr
 constructor
 ·intro h
  split at h
  ·omega
  ·rename_i h1
   cases e:findL fchk l with
   | some v =>
    rw [e] at h
    have h:v=0:=h
    subst h
    exfalso
    have:∀l:List GRule,findL fchk l≠some 0:=by
     intro l
     induction l with
     | nil=>simp [findL]
     | cons a r ih =>
      simp only [findL]
      cases g:fchk a with
      | none=>exact ih
      | some v =>
       unfold fchk at g
       split at g
       ·cases g
       ·rename_i g2;cases g;intro h;exact g2 (Option.some.inj h)
    exact this l e
   | none =>
    rw [e] at h
    have hall:=findL_none.1 e
    refine ⟨by omega,fun r hr=>rchk_zero.1 ?_,?_⟩
    ·have:=hall r hr
     unfold fchk at this
     split at this
     ·assumption
     ·cases this
    ·have h:(if uniq l then (0:Int) else 7)=0:=h
     split at h
     ·assumption
     ·omega
 ·rintro ⟨h1,h2,h3⟩
  rw [if_neg (by omega)]
  have:findL fchk l=none:=findL_none.2 fun r hr=>by unfold fchk;rw [if_pos (rchk_zero.2 (h2 r hr))]
  rw [this]
  exact if_pos h3
end Go.Ab
namespace Go.Ab
open Go.Proofs
theorem strl_s {n:Nat} (h:n≤100000000):strl n=true:=strl_iff.2 (by omega)
def words12:List Str:=[[],[107,105,110,100],[112,97,116,104],[101,110,100,115],[115,111,117,114,99,101],[100,101,112,116,104],[108,101,110,103,116,104],[112,114,105,110,116],[98,101,102,111,114,101],[110,111,116],[97,110,100],[111,114]]
def wd (o:Int):Str:=words12.getD o.toNat default
theorem wd_len (o:Int):(wd o).length≤6:=by
 unfold wd
 rw [List.getD_eq_getElem?_getD]
 by_cases h:o.toNat<12
 ·have:∀i,i<12→((words12[i]?).getD default).length≤6:=by decide
  exact this _ h
 ·rw [List.getElem?_eq_none (by show words12.length≤_;simp [words12];omega)]
  decide
theorem word_eq {o:Int} (h0:0≤o) (h1:o≤11):F_h o=some (wd o):=Ok.eq (Ok.chk (inb_iff.2 ⟨h0,by show o<12;omega⟩) (Ok.ret rfl))
mutual
def GTerm.txt:GTerm→Str
 | ⟨o,t,n,p,k⟩=>if o=1∨o=2∨o=3 then wd o++[32,34]++t++[34] else if o=7 then wd o++[32]++Lib.decDigits p.toNat else if o=9 then [110,111,116,32,40]++(GTerm.txts k).headD []++[41] else if o=10∨o=11 then [40]++Lib.join (GTerm.txts k) ([32]++wd o++[32])++[41] else wd o++[32]++Lib.itoa n
def GTerm.txts:List GTerm→List Str
 | []=>[]
 | a::r=>GTerm.txt a::GTerm.txts r
end
theorem txts_map:∀l:List GTerm,GTerm.txts l=l.map GTerm.txt
 | []=>by simp [GTerm.txts]
 | a::r=>by simp only [GTerm.txts,List.map_cons,txts_map r]
theorem txt_eq (x:GTerm):x.txt=if x.Op=1∨x.Op=2∨x.Op=3 then wd x.Op++[32,34]++x.Text++[34] else if x.Op=7 then wd x.Op++[32]++Lib.decDigits x.Print.toNat else if x.Op=9 then [110,111,116,32,40]++(x.Kids.map GTerm.txt).headD []++[41] else if x.Op=10∨x.Op=11 then [40]++Lib.join (x.Kids.map GTerm.txt) ([32]++wd x.Op++[32])++[41] else wd x.Op++[32]++Lib.itoa x.Number:=by
 cases x;simp only [GTerm.txt,txts_map]
theorem Wf.p0 {x:GTerm} (h:Wf x):0≤x.Print:=by cases h;assumption
theorem Wf.p1 {x:GTerm} (h:Wf x):x.Print<18446744073709551616:=by cases h;assumption
theorem Wf.kid {x k:GTerm} (h:Wf x) (hk:k∈x.Kids):Wf k:=by cases h with|mk _ _ _ h=>exact h k hk
theorem Rgt.kinds {x:GTerm} (h:Rgt x):((x.Op=1∨x.Op=2∨x.Op=3)∧qP x.Text)∨((x.Op=4∨x.Op=5∨x.Op=6∨x.Op=8)∧0≤x.Number∧x.Number≤1099511627776)∨x.Op=7∨(x.Op=9∧∃k,x.Kids=[k])∨((x.Op=10∨x.Op=11)∧2≤x.Kids.length):=by
 rcases h.ok with h|h|h|⟨h,_,_,_,h2⟩
 ·exact .inl ⟨h.1,h.2.1⟩
 ·exact .inr (.inl ⟨h.1,h.2.2.1,h.2.2.2.1⟩)
 ·exact .inr (.inr (.inl h.1))
 ·rcases h2 with h2|h2
  ·exact .inr (.inr (.inr (.inl ⟨h2.1,List.length_eq_one_iff.1 h2.2⟩)))
  ·exact .inr (.inr (.inr (.inr ⟨by omega,h2.2⟩)))
theorem dec_len {u:Nat} (hu:u<18446744073709551616):(Lib.decDigits u).length≤20:=by
 rw [Lib.decDigits_length]
 by_cases h:1≤u
 ·have:=Lib.numDigits_eq u h hu;split at this<;>omega
 ·obtain rfl:u=0:=by omega
  exact Nat.le_of_ble_eq_true (by kernel_rfl)
theorem ita_len {n:Int} (h0:0≤n) (h1:n≤1099511627776):(Lib.itoa n).length≤20:=by
 obtain ⟨u,rfl⟩:=Int.eq_ofNat_of_zero_le h0
 rw [Lib.itoa_nonneg]
 exact dec_len (by omega)
theorem tail_len {sep:Str} (hs:sep.length≤8):∀{l:List GTerm},(∀k∈l,(k.txt.length:Int)≤60*k.cnt - 10)→((Lib.joinTail sep (l.map GTerm.txt)).length:Int)≤60*GTerm.cnts l
 | [],_=>by simp [Lib.joinTail,GTerm.cnts]
 | a::r,h=>by
  have h1:=h a (by simp)
  have h2:=tail_len hs (l:=r) fun k hk=>h k (by simp [hk])
  have e:Lib.joinTail sep ((a::r).map GTerm.txt)=sep++a.txt++Lib.joinTail sep (r.map GTerm.txt):=by simp [Lib.joinTail]
  rw [e]
  simp only [GTerm.cnts,List.length_append]
  omega
theorem join_len {sep:Str} (hs:sep.length≤8) {l:List GTerm} (h:∀k∈l,(k.txt.length:Int)≤60*k.cnt - 10):((Lib.join (l.map GTerm.txt) sep).length:Int)≤60*GTerm.cnts l:=by
 cases l with
 | nil=>simp [Lib.join_nil,GTerm.cnts]
 | cons a r =>
  rw [List.map_cons,Lib.join_cons]
  have h1:=h a (by simp)
  have h2:=tail_len hs (l:=r) fun k hk=>h k (by simp [hk])
  simp only [GTerm.cnts,List.length_append]
  omega
theorem sep_len (o:Int):(([32]:Str)++wd o++[32]).length≤8:=by have:=wd_len o;simp;omega
theorem txt_len:∀x:GTerm,Rgt x→Wf x→(x.txt.length:Int)≤60*x.cnt - 10:=by
 refine GTerm.ind fun x ih hx hw=>?_
 have hk:∀k∈x.Kids,(k.txt.length:Int)≤60*k.cnt - 10:=fun k hk=>ih k hk (hx.kid hk) (hw.kid hk)
 have hwl:=wd_len x.Op
 have hcl:=cnts_len x.Kids
 rw [txt_eq,cnt_eq]
 rcases hx.kinds with ⟨h,h1⟩|⟨h,h1,h2⟩|h|⟨h,k,h1⟩|⟨h,h1⟩
 ·rw [if_pos h]
  have:=h1.2.2
  simp;omega
 ·rw [if_neg (by omega),if_neg (by omega),if_neg (by omega),if_neg (by omega)]
  have:=ita_len h1 h2
  simp;omega
 ·rw [if_neg (by omega),if_pos h]
  have:=dec_len (u:=x.Print.toNat) (by have:=hw.p0;have:=hw.p1;omega)
  simp;omega
 ·rw [if_neg (by omega),if_neg (by omega),if_pos h,h1]
  have:=hk k (by rw [h1];simp)
  simp [GTerm.cnts];omega
 ·rw [if_neg (by omega),if_neg (by omega),if_neg (by omega),if_pos h]
  have:=join_len (sep_len x.Op) hk
  simp only [List.length_append,List.length_cons,List.length_nil] at this ⊢
  omega
theorem write_ok:∀(x:GTerm) (m:Nat),x.hgt≤m→Rgt x→Wf x→x.cnt≤1000→Ok (FR_2 m x) (·=x.txt):=by
 refine GTerm.ind fun x ih m hm hx hw hc=>?_
 obtain ⟨m,rfl⟩:∃n,m=n+1:=⟨m - 1,by have:=hgt_pos x;omega⟩
 have ihk:∀k∈x.Kids,Ok (FR_2 m k) (·=k.txt):=fun k hk=>ih k hk m (by have:=kid_hgt hk;omega) (hx.kid hk) (hw.kid hk) (by have:=kid_cnt hk;omega)
 have hkl:∀k∈x.Kids,(k.txt.length:Int)≤60*k.cnt - 10:=fun k hk=>txt_len k (hx.kid hk) (hw.kid hk)
 have htl:=txt_len x hx hw
 have hwl:=wd_len x.Op
 have hcl:=kids_cnt x
 have ho:0≤x.Op∧x.Op≤11:=by rcases hx.kinds with ⟨h,_⟩|⟨h,_⟩|h|⟨h,_⟩|⟨h,_⟩<;>omega
 have hwo:=word_eq ho.1 ho.2
 have htx:=txt_eq x
 rw [FR_2]
 refine Ok.jn (P:=fun b=>b=decide (x.Op=1∨x.Op=2∨x.Op=3)) (Ok.ite (fun c=>Ok.ret (by simpa using .inl (of_decide_eq_true c))) fun c=>Ok.ite (fun c2=>Ok.ret (by simpa using .inr (.inl (of_decide_eq_true c2)))) fun c2=>Ok.ret (by simp at c c2;simp [c,c2])) fun b hb=>?_
 subst hb
 refine Ok.ite (fun c=>?_) fun c=>?_
 ·have c:=of_decide_eq_true c
  rw [if_pos c] at htx
  have hq:qP x.Text:=by rcases hx.kinds with h|h|h|h|h<;>first|exact h.2|omega
  have:=hq.2.2
  rw [hwo,Option.bind_some,htx]
  refine Ok.chk (strl_s (by simp;omega)) (Ok.chk (strl_s (by simp;omega)) (Ok.chk (strl_s (by simp;omega)) (Ok.ret rfl)))
 ·have c:=of_decide_eq_false c
  rw [if_neg c] at htx
  refine Ok.ite (fun c7=>?_) fun c7=>?_
  ·have c7:=of_decide_eq_true c7
   rw [if_pos c7] at htx
   have hp0:=hw.p0;have hp1:=hw.p1
   have hd:=dec_len (u:=x.Print.toNat) (by omega)
   have hf:futI x.Print 10=some (Lib.decDigits x.Print.toNat):=Ok.eq (Ok.chk (by simp;omega) (Ok.ret rfl))
   rw [hwo,Option.bind_some,hf,htx]
   refine Ok.chk (strl_s (by simp;omega)) ?_
   rw [Option.bind_some]
   exact Ok.chk (strl_s (by simp;omega)) (Ok.ret rfl)
  ·have c7:=of_decide_eq_false c7
   rw [if_neg c7] at htx
   refine Ok.ite (fun c9=>?_) fun c9=>?_
   ·have c9:=of_decide_eq_true c9
    rw [if_pos c9] at htx
    obtain ⟨k,hk⟩:∃k,x.Kids=[k]:=by rcases hx.kinds with ⟨h,_⟩|⟨h,_⟩|h|⟨h,h1⟩|⟨h,_⟩<;>first|exact h1|omega
    have hm:k∈x.Kids:=by rw [hk];simp
    have hg:x.Kids.getD 0 default=k:=by rw [hk];rfl
    have:=hkl k hm
    have:=kid_cnt hm
    rw [hg,htx,hk]
    refine Ok.chk (inb_iff.2 ⟨by omega,by simp⟩) (Ok.bind (ihk k hm) fun y hy=>?_)
    subst hy
    exact Ok.chk (strl_s (by simp;omega)) (Ok.chk (strl_s (by simp;omega)) (Ok.ret rfl))
   ·have c9:=of_decide_eq_false c9
    rw [if_neg c9] at htx
    refine Ok.jn (P:=fun b=>b=decide (x.Op=10∨x.Op=11)) (Ok.ite (fun c=>Ok.ret (by simpa using .inl (of_decide_eq_true c))) fun c=>Ok.ret (by simp at c;simp [c])) fun b hb=>?_
    subst hb
    refine Ok.ite (fun c3=>?_) fun c3=>?_
    ·have c3:=of_decide_eq_true c3
     rw [if_pos c3] at htx
     have hjl:=join_len (sep_len x.Op) hkl
     refine Ok.bind (Ok.foldI (all:=x.Kids) (Q:=fun o=>o=x.Kids.map GTerm.txt) (fun pre s=>s=pre.map GTerm.txt) x.Kids [] 0 _ rfl rfl rfl (fun pre k r s hw2 hs=>?_) fun s hs=>hs) fun o ho=>?_
     ·refine Ok.bind (ihk k (mem_at hw2)) fun y hy=>?_
      subst hy hs
      have:=len_at hw2
      exact Ok.chk (room_s (by simp;omega)) (Ok.ret (by simp))
     ·subst ho
      have hcq:=cnt_eq x
      have hj:joinI (x.Kids.map GTerm.txt) ([32]++wd x.Op++[32])=some (Lib.join (x.Kids.map GTerm.txt) ([32]++wd x.Op++[32])):=Ok.eq (Ok.chk (by
       rw [Bool.and_eq_true,decide_eq_true_eq,decide_eq_true_eq]
       exact ⟨by rw [List.length_map];omega,by omega⟩) (Ok.ret rfl))
      rw [hwo,Option.bind_some]
      refine Ok.chk (strl_s (by simp;omega)) (Ok.chk (strl_s (by simp;omega)) ?_)
      rw [hj,Option.bind_some,htx]
      exact Ok.chk (strl_s (by simp only [List.length_cons,List.length_nil];omega)) (Ok.chk (strl_s (by rw [List.length_append];simp only [List.length_cons,List.length_nil];omega)) (Ok.ret rfl))
    ·have c3:=of_decide_eq_false c3
     rw [if_neg c3] at htx
     have hn:0≤x.Number∧x.Number≤1099511627776:=by rcases hx.kinds with ⟨h,_⟩|⟨h,h1⟩|h|⟨h,h1⟩|⟨h,_⟩<;>first|exact h1|omega
     have hil:=ita_len hn.1 hn.2
     have hi:itoaI x.Number=some (Lib.itoa x.Number):=Ok.eq (Ok.chk (in64_s (by omega) (by omega)) (Ok.ret rfl))
     rw [hwo,Option.bind_some,hi,htx]
     refine Ok.chk (strl_s (by simp;omega)) ?_
     rw [Option.bind_some]
     exact Ok.chk (strl_s (by simp;omega)) (Ok.ret rfl)
theorem write_eq {x:GTerm} (hx:Rgt x) (hw:Wf x) (hc:x.cnt≤1000):F_2 x=some x.txt:=lim_of ⟨x.hgt,fun m hm=>(write_ok x m hm hx hw hc).eq⟩
def vw (v:Int):Str:=if v=2 then [58,32,102,97,108,115,101,32,105,102,32] else [58,32,114,101,97,108,32,105,102,32]
def GRule.line (r:GRule):Str:=r.Name++vw r.Verdict++r.When.txt++[10]
def rtxt (l:List GRule):Str:=(l.map GRule.line).flatten
theorem vw_len (v:Int):(vw v).length≤11:=by unfold vw;split<;>simp
theorem line_len {r:GRule} (h1:nameP r.Name) (h2:PV r.When) (hw:Wf r.When):r.line.length≤3700:=by
 have:=txt_len r.When h2.rgt hw
 have:=h2.cnt
 have:=h1.2.2
 have:=vw_len r.Verdict
 unfold GRule.line
 simp;omega
theorem rtxt_len:∀{l:List GRule},(∀r∈l,r.line.length≤3700)→(rtxt l).length≤3700*l.length
 | [],_=>by simp [rtxt]
 | a::r,h=>by
  have h1:=h a (by simp)
  have h2:=rtxt_len (l:=r) fun k hk=>h k (by simp [hk])
  simp only [rtxt,List.map_cons,List.flatten_cons,List.length_append,List.length_cons] at h2 ⊢
  omega
theorem text_eq {l:List GRule} (h:VR' l) (hw:∀r∈l,Wf r.When):F_v l=some (rtxt l):=by
 have hll:∀r∈l,r.line.length≤3700:=fun r hr=>line_len (h.r r hr).1 (h.r r hr).2.1 (hw r hr)
 have hn:=h.n
 refine Ok.eq ?_
 unfold F_v
 refine Ok.bind (Ok.foldI (all:=l) (Q:=fun o=>o=rtxt l) (fun pre s=>s=rtxt pre) l [] 0 [] rfl rfl rfl (fun pre r q s hw2 hs=>?_) fun s hs=>hs) fun o ho=>?_
 ·have hr:=mem_at hw2
  have hpl:=rtxt_len (l:=pre) fun k hk=>hll k (by rw [hw2];simp [hk])
  have hlt:=len_at hw2
  have h1:=(h.r r hr).1.2.2
  have h2:=(h.r r hr).2.1
  have h3:=txt_len r.When h2.rgt (hw r hr)
  have h4:=h2.cnt
  have h5:=vw_len r.Verdict
  have h6:=hll r hr
  unfold F_1k
  refine Ok.jn (P:=fun j=>j=vw r.Verdict) (Ok.ite (fun c=>Ok.ret (by unfold vw;rw [if_pos (of_decide_eq_true c)])) fun c=>Ok.ret (by unfold vw;rw [if_neg (of_decide_eq_false c)])) fun j hj=>?_
  subst hj hs
  rw [write_eq h2.rgt (hw r hr) (by omega),Option.bind_some]
  refine Ok.chk (strl_s (by omega)) (Ok.chk (strl_s (by simp;omega)) (Ok.chk (strl_s (by simp;omega)) ?_))
  have hb:bws (rtxt pre) (r.Name++vw r.Verdict++r.When.txt++[10])=some (rtxt pre++r.line):=Ok.eq (Ok.chk (room_iff.2 (by
   have:(r.Name++vw r.Verdict++r.When.txt++[10]).length=r.line.length:=rfl
   omega)) (Ok.ret rfl))
  rw [hb]
  exact Ok.ret (by simp [rtxt])
 ·subst ho
  exact Ok.ret rfl
theorem Text_eq {l:List GRule} (h:VR' l) (hw:∀r∈l,Wf r.When):F_14 l=some (rtxt l,0):=by
 refine Ok.eq ?_
 unfold F_14
 rw [valid_eq,verr_zero.2 h,Option.bind_some]
 refine Ok.ite (fun f=>by cases f) fun _=>?_
 rw [text_eq h hw]
 exact Ok.ret rfl
end Go.Ab
namespace Go.Ab
open Go.Proofs
end Go.Ab
namespace Go.Ab
open Go.Proofs
end Go.Ab
namespace Go.Ab
open Go.Proofs
end Go.Ab
namespace Go.Ab
open Go.Proofs
theorem term_ext {a b:GTerm}:a=b↔a.Op=b.Op∧a.Text=b.Text∧a.Number=b.Number∧a.Print=b.Print∧a.Kids=b.Kids:=by
 cases a;cases b;simp only [GTerm.mk.injEq]
theorem rule_ext {a b:GRule}:a=b↔a.Name=b.Name∧a.Verdict=b.Verdict∧a.When=b.When:=by
 cases a;cases b;simp only [GRule.mk.injEq]
 exact ⟨fun ⟨h1,h2,h3⟩=>⟨h1,h3,h2⟩,fun ⟨h1,h2,h3⟩=>⟨h1,h3,h2⟩⟩
theorem take_eq {α:Type} [Inhabited α] {l r:List α} {n:Nat} (h1:n<l.length) (h2:n<r.length) (h:l.take n=r.take n) (e:l.getD n default=r.getD n default):l.take (n+1)=r.take (n+1):=by
 obtain ⟨k,_,g1,t1⟩:=at_take h1
 obtain ⟨k',_,g2,t2⟩:=at_take h2
 rw [t1,t2,h,←g1,←g2,e]
open Classical in
theorem eqrow_go {α:Type} [Inhabited α] {body:Int→α→Unit→Option (Fl Unit Bool)} {r:List α} {l:List α} (hl:l.length=r.length)
  (h:∀(n:Nat),n<l.length→body (n:Int) (l.getD n default) ()=some (if l.getD n default=r.getD n default then .nx () else .ex false)) :
  ((forL body l 0 ()).bind fun o=>o.elim (fun _=>some true) fun x=>some x)=some (decide (l=r)):=by
 refine Ok.eq ?_
 refine Ok.bind (Ok.forI (all:=l) (Q:=fun o=>(o=.nx ()∧l=r)∨(o=.ex false∧l≠r)) (fun pre _=>l.take pre.length=r.take pre.length) l [] 0 () rfl rfl (by simp) (fun pre a q s hw hs=>?_) fun s hs=>.inl ⟨rfl,?_⟩) fun o ho=>?_
 ·have hlt:=len_at hw
  have hg:=getD_at hw
  have:=h pre.length hlt
  rw [hg] at this
  rw [this]
  by_cases c:a=r.getD pre.length default
  ·rw [if_pos c]
   refine Ok.ret ?_
   show l.take (pre++[a]).length=_
   rw [List.length_append,List.length_singleton]
   exact take_eq hlt (by omega) hs (by rw [hg,c])
  ·rw [if_neg c]
   refine Ok.ret (.inr ⟨rfl,fun e=>c ?_⟩)
   rw [←e,hg]
 ·rw [List.take_length,hl,List.take_length] at hs;exact hs
 ·rcases ho with ⟨rfl,h⟩|⟨rfl,h⟩
  ·exact Ok.ret (by show true=_;rw [eq_comm,decide_eq_true_eq];exact h)
  ·exact Ok.ret (by show false=_;rw [eq_comm,decide_eq_false_iff_not];exact h)
open Classical in
theorem psame_ok:∀(a:GTerm) (m:Nat) (b:GTerm),2*a.hgt≤m→Ok (FR_j m a b) (·=decide (a=b)):=by
 refine GTerm.ind fun a ih m b hm=>?_
 have hp:=hgt_pos a
 obtain ⟨m,rfl⟩:∃n,m=n+2:=⟨m - 2,by omega⟩
 have hk:FR_w (m+1) a.Kids b.Kids=some (decide (a.Kids=b.Kids)):=by
  rw [FR_w]
  by_cases c:(a.Kids.length:Int)=b.Kids.length
  ·rw [decide_eq_true c]
   refine eqrow_go (by omega) fun n hn=>?_
   obtain ⟨k,hk,hg,_⟩:=at_take hn
   have hi:inb (n:Int) b.Kids.length=true:=inb_iff.2 ⟨by omega,by omega⟩
   have e0:(n:Int).toNat=n:=Int.toNat_natCast n
   rw [e0,hg]
   refine Ok.eq (Ok.chk hi (Ok.bind (ih k hk m _ (by have:=kid_hgt hk;omega)) fun y hy=>?_))
   subst hy
   refine Ok.ite (fun f=>Ok.ret ?_) fun f=>Ok.ret ?_
   ·rw [if_neg (by simpa using f)]
   ·rw [if_pos (by simpa using f)]
  ·rw [decide_eq_false c]
   show some false=_
   congr 1
   rw [eq_comm,decide_eq_false_iff_not]
   exact fun e=>c (by rw [e])
 rw [FR_j]
 refine Ok.grp (Ok.grp (Ok.grp (Ok.grp ?_)))
 refine Ok.jn (P:=fun v=>v=decide (a=b)) (Ok.ite (fun c=>?_) fun c=>Ok.ret ?_) fun v hv=>Ok.ret hv
 ·simp only [Bool.and_eq_true,decide_eq_true_eq] at c
  rw [hk]
  exact Ok.ret (decide_eq_decide.2 (term_ext.trans ⟨fun h=>h.2.2.2.2,fun h=>⟨c.1.1.1,c.1.1.2,c.1.2,c.2,h⟩⟩).symm)
 ·rw [eq_comm,decide_eq_false_iff_not]
  rintro rfl
  simp at c
open Classical in
theorem psame_eq (a b:GTerm):F_j a b=some (decide (a=b)):=lim_of ⟨2*a.hgt,fun m hm=>(psame_ok a m b hm).eq⟩
open Classical in
theorem rsame_ok:∀(a:GTerm) (m:Nat) (b:GTerm),a.hgt≤m→Lens a→Ok (FR_g m a b) (·=decide (a=b)):=by
 refine GTerm.ind fun a ih m b hm ha=>?_
 obtain ⟨m,rfl⟩:∃n,m=n+1:=⟨m - 1,by have:=hgt_pos a;omega⟩
 have h2:=ha.kl
 rw [FR_g]
 refine Ok.grp (Ok.grp (Ok.grp (Ok.grp (Ok.ite (fun c=>Ok.ret ?_) fun c=>?_))))
 ·rw [eq_comm,decide_eq_false_iff_not]
  rintro rfl
  simp at c
 ·simp only [Bool.or_eq_false_iff,Bool.not_eq_false',decide_eq_true_eq] at c
  obtain ⟨⟨⟨⟨c1,c2⟩,c3⟩,c4⟩,c5⟩:=c
  refine Ok.bind (Ok.loop (Q:=fun r=>(r=.inl ()∧a.Kids=b.Kids)∨(r=.inr false∧a.Kids≠b.Kids)) (fun i:Int=>∃n:Nat,i=(n:Int)∧n≤a.Kids.length∧a.Kids.take n=b.Kids.take n) (fun i=>(a.Kids.length - i).toNat) (fun i hi=>?_) _ ⟨0,rfl,by omega,by simp⟩) fun r hr=>?_
  ·obtain ⟨n,rfl,g2,g3⟩:=hi
   have e0:(n:Int).toNat=n:=Int.toNat_natCast n
   rw [e0]
   refine Ok.ite (fun d=>?_) fun d=>?_
   ·have d:(n:Int)<a.Kids.length:=of_decide_eq_true d
    obtain ⟨k,hk,hg,_⟩:=at_take (l:=a.Kids) (n:=n) (by omega)
    rw [hg]
    refine Ok.chk (inb_iff.2 ⟨by omega,d⟩) (Ok.chk (inb_iff.2 ⟨by omega,by omega⟩) (Ok.bind (ih k hk m _ (by have:=kid_hgt hk;omega) (ha.kid hk)) fun y hy=>?_))
    subst hy
    refine Ok.ite (fun f=>Ok.ret (.inr ⟨rfl,fun e=>?_⟩)) fun f=>Ok.chk (in64_iff.2 ⟨by omega,by omega⟩) (Ok.ret ⟨⟨n+1,rfl,by omega,?_⟩,by omega⟩)
    ·have f:¬k=b.Kids.getD n default:=by simpa using f
     exact f (by rw [←e,hg])
    ·have f:k=b.Kids.getD n default:=by simpa using f
     exact take_eq (by omega) (by omega) g3 (by rw [hg,f])
   ·have d:¬(n:Int)<a.Kids.length:=of_decide_eq_false d
    have e:n=a.Kids.length:=by omega
    subst e
    rw [List.take_length,show a.Kids.length=b.Kids.length by omega,List.take_length] at g3
    exact Ok.ret (.inl ⟨rfl,g3⟩)
  ·rcases hr with ⟨rfl,h'⟩|⟨rfl,h'⟩
   ·rw [Sum_inl]
    refine Ok.ret ?_
    rw [eq_comm,decide_eq_true_eq]
    exact term_ext.2 ⟨c1,c2,c3,c4,h'⟩
   ·rw [Sum_inr]
    refine Ok.ret ?_
    rw [eq_comm,decide_eq_false_iff_not]
    exact fun e=>h' (by rw [e])
open Classical in
theorem rsame_eq (a b:GTerm) (ha:Lens a):F_g a b=some (decide (a=b)):=lim_of ⟨a.hgt,fun m hm=>(rsame_ok a m b hm ha).eq⟩
open Classical in
theorem same1_eq (x y:GRule):F_1u x y=some (decide (x=y)):=by
 refine Ok.eq ?_
 unfold F_1u
 refine Ok.grp (Ok.jn (P:=fun v=>v=decide (x=y)) (Ok.ite (fun c=>?_) fun c=>Ok.ret ?_) fun v hv=>Ok.ret hv)
 ·simp only [Bool.and_eq_true,decide_eq_true_eq] at c
  rw [psame_eq]
  exact Ok.ret (decide_eq_decide.2 (rule_ext.trans ⟨fun h=>h.2.2,fun h=>⟨c.1,c.2,h⟩⟩).symm)
 ·rw [eq_comm,decide_eq_false_iff_not]
  rintro rfl
  simp at c
open Classical in
theorem Same_eq (a b:List GRule):F_1a a b=some (decide (a=b)):=by
 unfold F_1a
 have:F_1v a b=some (decide (a=b)):=by
  unfold F_1v
  by_cases c:(a.length:Int)=b.length
  ·rw [decide_eq_true c]
   refine eqrow_go (by omega) fun n hn=>?_
   unfold F_2e
   have hi:inb (n:Int) b.length=true:=inb_iff.2 ⟨by omega,by omega⟩
   have e0:(n:Int).toNat=n:=Int.toNat_natCast n
   rw [e0,same1_eq]
   refine Ok.eq (Ok.chk hi ?_)
   refine Ok.ite (fun f=>Ok.ret ?_) fun f=>Ok.ret ?_
   ·rw [if_neg (by simpa using f)]
   ·rw [if_pos (by simpa using f)]
  ·rw [decide_eq_false c]
   show some false=_
   congr 1
   rw [eq_comm,decide_eq_false_iff_not]
   exact fun e=>c (by rw [e])
 rw [this];rfl
open Classical in
theorem rSame_eq (a b:List GRule) (hl:a.length≤9223372036854775807) (ha:∀r∈a,Lens r.When):F_1t a b=some (decide (a=b)):=by
 refine Ok.eq ?_
 unfold F_1t
 refine Ok.ite (fun c=>Ok.ret ?_) fun c=>?_
 ·rw [eq_comm,decide_eq_false_iff_not]
  rintro rfl
  simp at c
 ·simp only [Bool.not_eq_false',decide_eq_true_eq] at c
  refine Ok.bind (Ok.loop (Q:=fun r=>(r=.inl ()∧a=b)∨(r=.inr false∧a≠b)) (fun i:Int=>∃n:Nat,i=(n:Int)∧n≤a.length∧a.take n=b.take n) (fun i=>(a.length - i).toNat) (fun i hi=>?_) _ ⟨0,rfl,by omega,by simp⟩) fun r hr=>?_
  ·obtain ⟨n,rfl,g2,g3⟩:=hi
   have e0:(n:Int).toNat=n:=Int.toNat_natCast n
   unfold F_2l
   rw [e0]
   refine Ok.ite (fun d=>?_) fun d=>?_
   ·have d:(n:Int)<a.length:=of_decide_eq_true d
    obtain ⟨k,hk,hg,_⟩:=at_take (l:=a) (n:=n) (by omega)
    rw [hg]
    have i1:inb (n:Int) a.length=true:=inb_iff.2 ⟨by omega,d⟩
    have i2:inb (n:Int) b.length=true:=inb_iff.2 ⟨by omega,by omega⟩
    refine Ok.chk i1 (Ok.chk i2 (Ok.ite (fun f=>Ok.ret (.inr ⟨rfl,fun e=>?_⟩)) fun f=>Ok.chk i1 (Ok.chk i2 (Ok.ite (fun f2=>Ok.ret (.inr ⟨rfl,fun e=>?_⟩)) fun f2=>Ok.chk i1 (Ok.chk i2 ?_)))))
    ·rw [←e,hg] at f;simp at f
    ·rw [←e,hg] at f2;simp at f2
    ·simp only [Bool.not_eq_false',decide_eq_true_eq] at f f2
     rw [rsame_eq _ _ (ha k hk),Option.bind_some]
     refine Ok.ite (fun f3=>Ok.ret (.inr ⟨rfl,fun e=>?_⟩)) fun f3=>Ok.chk (in64_iff.2 ⟨by omega,by omega⟩) (Ok.ret ⟨⟨n+1,rfl,by omega,?_⟩,by omega⟩)
     ·rw [←e,hg] at f3;simp at f3
     ·have f3:k.When=(b.getD n default).When:=by simpa using f3
      exact take_eq (by omega) (by omega) g3 (by rw [hg];exact rule_ext.2 ⟨f,f2,f3⟩)
   ·have d:¬(n:Int)<a.length:=of_decide_eq_false d
    have e:n=a.length:=by omega
    subst e
    rw [List.take_length,show a.length=b.length by omega,List.take_length] at g3
    exact Ok.ret (.inl ⟨rfl,g3⟩)
  ·rcases hr with ⟨rfl,h'⟩|⟨rfl,h'⟩
   ·rw [Sum_inl]
    exact Ok.ret (by rw [eq_comm,decide_eq_true_eq];exact h')
   ·rw [Sum_inr]
    exact Ok.ret (by rw [eq_comm,decide_eq_false_iff_not];exact h')
end Go.Ab
namespace Go.Ab
open Go.Proofs
def nm (n:Int):Str:=([114]:Str)++[u8 (48+((u8 n).toNat:Int))]
instance (s:Str):Decidable (nameP s):=inferInstanceAs (Decidable (_∧_))
theorem nm_ok:∀n:Nat,n<6→nameP (nm n):=by
 intro n hn
 have:n=0∨n=1∨n=2∨n=3∨n=4∨n=5:=by omega
 rcases this with rfl|rfl|rfl|rfl|rfl|rfl<;>decide
theorem nm_inj:∀n:Nat,n<6→∀m:Nat,m<6→nm n=nm m→n=m:=by decide
structure okR (l:List GRule):Prop where
 r:∀r∈l,PV r.When∧Wf r.When∧(r.Verdict=1∨r.Verdict=2)∧∃k:Nat,k<l.length∧r.Name=nm k
 u:uniq l
theorem okR.vr {l:List GRule} (h:okR l) (hl:l.length≤6):VR' l:=by
 refine ⟨by omega,fun r hr=>?_,h.u⟩
 obtain ⟨h1,_,h3,k,hk,e⟩:=h.r r hr
 exact ⟨by rw [e];exact nm_ok k (by omega),h1,h3⟩
theorem okR.snoc {l:List GRule} {x:GRule} (h:okR l) (hl:l.length<6) (h1:PV x.When) (h2:Wf x.When) (h3:x.Verdict=1∨x.Verdict=2) (h4:x.Name=nm l.length):okR (l++[x]):=by
 refine ⟨fun r hr=>?_,uniq_snoc.2 ⟨h.u,fun o ho=>?_⟩⟩
 ·rcases List.mem_append.1 hr with hr|hr
  ·obtain ⟨g1,g2,g3,k,hk,e⟩:=h.r r hr
   exact ⟨g1,g2,g3,k,by simp;omega,e⟩
  ·cases List.mem_singleton.1 hr
   exact ⟨h1,h2,h3,l.length,by simp,h4⟩
 ·obtain ⟨_,_,_,k,hk,e⟩:=h.r o ho
  intro e2
  rw [e,h4] at e2
  have:=nm_inj k (by omega) l.length (by omega) e2
  omega
theorem rules_made {t:GTape} (ht:TO t) {n:Int} (h0:0≤n) (hn:n≤6):Ok (F_1m t n) fun y=>okR y.1∧(y.1.length:Int)=n∧TO y.2:=by
 unfold F_1m
 refine Ok.bind (Ok.loop (Q:=fun r:List GRule×GTape=>okR r.1∧(r.1.length:Int)=n∧TO r.2) (fun x:Int×List GRule×GTape=>x.1=x.2.1.length∧x.1≤n∧okR x.2.1∧TO x.2.2) (fun x=>(n - x.1).toNat) (fun x hx=>?_) _ ⟨by simp,h0,⟨by simp,by simp [uniq]⟩,ht⟩) fun r hr=>Ok.ret hr
 obtain ⟨i,l,t⟩:=x
 obtain ⟨h1,h2,h3,h4⟩:=hx
 dsimp only at h1 h2 h3 h4
 subst h1
 unfold F_2f
 refine Ok.ite (fun c=>?_) fun c=>?_
 ·have c:(l.length:Int)<n:=of_decide_eq_true c
  dsimp only
  rw [num_small (by omega) (by omega),Option.bind_some]
  refine Ok.chk (strl_s (by simp)) (Ok.bind (made_termW 2 (by omega) h4) fun y hy=>Ok.bind (btw_ok hy.2.2.2.2 (by omega) (by omega) (by omega)) fun z hz=>Ok.chk (room_s (by simp;omega)) (Ok.chk (in64_s (by omega) (by omega)) (Ok.ret ⟨⟨by dsimp only;simp,by dsimp only;omega,?_,hz.2.2⟩,by dsimp only;omega⟩)))
  have:=hy.2.2.1;have:=hy.2.2.2.1;have:=hz.1;have:=hz.2.1
  exact h3.snoc (by omega) ⟨by dsimp only;omega,by dsimp only;omega,hy.1⟩ hy.2.1 (by dsimp only;omega) rfl
 ·have c:¬(l.length:Int)<n:=of_decide_eq_false c
  exact Ok.ret ⟨h3,by dsimp only;omega,h4⟩
theorem acall_fact2 {P:Program} {f:FuncId} {ys:List V} {H:Heap} {Q:V→Heap→Prop} (hc:callable P f=true) (h:(∀y∈ys,y.fact)→ACall P f ys H Q):ACall P f ys H Q :=
 ⟨hc,fun g w vals hH hs hr=>(h fun y hy=>by
  obtain ⟨i,hi⟩:=List.getElem?_of_mem hy
  exact (hr i y hi).fact).2 g w vals hH hs hr⟩
end Go.Ab
namespace Go.Ab
open Go.Proofs
theorem u8d:∀k:Nat,k<10→u8 (48+((u8 (k:Int)).toNat:Int))=UInt8.ofNat (48+k):=by decide
theorem num_dec (u:Nat):∀m,u<m→u<18446744073709551616→FR_1 m (u:Int)=some (Lib.decDigits u):=by
 induction u using Nat.strongRecOn with
 | _ u ih =>
  intro m hm hu
  obtain ⟨m,rfl⟩:∃n,m=n+1:=⟨m - 1,by omega⟩
  rw [FR_1,Lib.decDigits]
  by_cases c:u<10
  ·rw [dif_pos c,decide_eq_true (by omega),u8d u c];rfl
  ·have e1:(u:Int) / 10=((u / 10:Nat):Int):=by omega
   have e2:(u:Int) % 10=((u % 10:Nat):Int):=by omega
   have hd:divs (u:Int) 10=true:=divs_iff.2 ⟨by omega,by omega⟩
   have hl:=dec_len (u:=u / 10) (by omega)
   rw [dif_neg c,decide_eq_false (by omega),e1,e2,u8d (u % 10) (by omega)]
   refine Ok.eq (Ok.ite (fun f=>by cases f) fun _=>Ok.chk hd ?_)
   rw [ih (u / 10) (by omega) m (by omega) (by omega),Option.bind_some]
   exact Ok.chk hd (Ok.chk (strl_s (by simp;omega)) (Ok.ret rfl))
theorem decim_dec (u:Nat):∀m,u<m→u<18446744073709551616→FR_f m (u:Int)=some (Lib.decDigits u):=by
 induction u using Nat.strongRecOn with
 | _ u ih =>
  intro m hm hu
  obtain ⟨m,rfl⟩:∃n,m=n+1:=⟨m - 1,by omega⟩
  rw [FR_f,Lib.decDigits]
  by_cases c:u<10
  ·rw [dif_pos c,decide_eq_true (by omega),u8d u c];rfl
  ·have e1:(u:Int) / 10=((u / 10:Nat):Int):=by omega
   have e2:(u:Int) % 10=((u % 10:Nat):Int):=by omega
   have hd:divs (u:Int) 10=true:=divs_iff.2 ⟨by omega,by omega⟩
   have hl:=dec_len (u:=u / 10) (by omega)
   rw [dif_neg c,decide_eq_false (by omega),e1,e2,u8d (u % 10) (by omega)]
   refine Ok.eq (Ok.ite (fun f=>by cases f) fun _=>Ok.chk hd ?_)
   rw [ih (u / 10) (by omega) m (by omega) (by omega),Option.bind_some]
   exact Ok.chk hd (Ok.chk (strl_s (by simp;omega)) (Ok.ret rfl))
theorem num_eq {n:Int} (h0:0≤n) (h1:n<18446744073709551616):F_1 n=some (Lib.itoa n):=by
 obtain ⟨u,rfl⟩:=Int.eq_ofNat_of_zero_le h0
 rw [Lib.itoa_nonneg]
 exact lim_of ⟨u+1,fun m hm=>num_dec u m (by omega) (by omega)⟩
theorem decim_eq {n:Int} (h0:0≤n) (h1:n<18446744073709551616):F_f n=some (Lib.decDigits n.toNat):=by
 obtain ⟨u,rfl⟩:=Int.eq_ofNat_of_zero_le h0
 exact lim_of ⟨u+1,fun m hm=>decim_dec u m (by omega) (by omega)⟩
theorem jtail_snoc (sep a:Str) (l:List Str):Lib.joinTail sep (l++[a])=Lib.joinTail sep l++(sep++a):=by
 simp [Lib.joinTail]
theorem join_snoc {sep a:Str} {l:List Str} (h:l≠[]):Lib.join (l++[a]) sep=Lib.join l sep++sep++a:=by
 cases l with
 | nil=>exact absurd rfl h
 | cons b r=>rw [List.cons_append,Lib.join_cons,Lib.join_cons,jtail_snoc];simp
theorem cnts_take:∀(l:List GTerm) (n:Nat),GTerm.cnts (l.take n)≤GTerm.cnts l
 | [],n=>by simp
 | a::r,0=>by
  have:=cnt_pos a;have:=cnts_len r
  simp only [List.take_zero,GTerm.cnts];omega
 | a::r,n+1=>by
  have:=cnts_take r n
  simp only [List.take_succ_cons,GTerm.cnts];omega
theorem rwrite_ok:∀(x:GTerm) (m:Nat),x.hgt≤m→Rgt x→Wf x→x.cnt≤1000→Ok (FR_b m x) (·=x.txt):=by
 refine GTerm.ind fun x ih m hm hx hw hc=>?_
 obtain ⟨m,rfl⟩:∃n,m=n+1:=⟨m - 1,by have:=hgt_pos x;omega⟩
 have ihk:∀k∈x.Kids,Ok (FR_b m k) (·=k.txt):=fun k hk=>ih k hk m (by have:=kid_hgt hk;omega) (hx.kid hk) (hw.kid hk) (by have:=kid_cnt hk;omega)
 have hkl:∀k∈x.Kids,(k.txt.length:Int)≤60*k.cnt - 10:=fun k hk=>txt_len k (hx.kid hk) (hw.kid hk)
 have htl:=txt_len x hx hw
 have hwl:=wd_len x.Op
 have hcl:=kids_cnt x
 have hcq:=cnt_eq x
 have ho:0≤x.Op∧x.Op≤11:=by rcases hx.kinds with ⟨h,_⟩|⟨h,_⟩|h|⟨h,_⟩|⟨h,_⟩<;>omega
 have htx:=txt_eq x
 have hwd:words12.getD x.Op.toNat default=wd x.Op:=rfl
 rw [FR_b,show F_25=some words12 from rfl,Option.bind_some]
 simp only [hwd]
 refine Ok.chk (inb_iff.2 ⟨ho.1,by show x.Op<12;omega⟩) ?_
 refine Ok.jn (P:=fun b=>b=decide (x.Op=1∨x.Op=2∨x.Op=3)) (Ok.ite (fun c=>Ok.ret (by simpa using .inl (of_decide_eq_true c))) fun c=>Ok.ite (fun c2=>Ok.ret (by simpa using .inr (.inl (of_decide_eq_true c2)))) fun c2=>Ok.ret (by simp at c c2;simp [c,c2])) fun b hb=>?_
 subst hb
 refine Ok.ite (fun c=>?_) fun c=>?_
 ·have c:=of_decide_eq_true c
  rw [if_pos c] at htx
  have hq:qP x.Text:=by rcases hx.kinds with h|h|h|h|h<;>first|exact h.2|omega
  have:=hq.2.2
  rw [htx]
  refine Ok.chk (strl_s (by simp;omega)) (Ok.chk (strl_s (by simp;omega)) (Ok.chk (strl_s (by simp;omega)) (Ok.ret rfl)))
 ·have c := of_decide_eq_false c
  rw [if_neg c] at htx
  refine Ok.jn (P:=fun b=>b=decide (x.Op=4∨x.Op=5∨x.Op=6∨x.Op=8)) (Ok.ite (fun c=>Ok.ret (decide_eq_true (by have:=of_decide_eq_true c;omega)).symm) fun c4=>Ok.ite (fun c=>Ok.ret (decide_eq_true (by have:=of_decide_eq_true c;omega)).symm) fun c5=>Ok.ite (fun c=>Ok.ret (decide_eq_true (by have:=of_decide_eq_true c;omega)).symm) fun c6=>Ok.ret (by
   have c4:=of_decide_eq_false c4;have c5:=of_decide_eq_false c5;have c6:=of_decide_eq_false c6
   exact decide_eq_decide.2 ⟨fun h=>by omega,fun h=>by omega⟩)) fun b hb=>?_
  subst hb
  refine Ok.ite (fun c4=>?_) fun c4=>?_
  ·have c4:=of_decide_eq_true c4
   rw [if_neg (by omega),if_neg (by omega),if_neg (by omega)] at htx
   have hn:0≤x.Number∧x.Number≤1099511627776:=by rcases hx.kinds with ⟨h,_⟩|⟨h,h1⟩|h|⟨h,h1⟩|⟨h,_⟩<;>first|exact h1|omega
   have hil:=ita_len hn.1 hn.2
   rw [num_eq hn.1 (by omega),htx]
   refine Ok.chk (strl_s (by simp;omega)) ?_
   rw [Option.bind_some]
   exact Ok.chk (strl_s (by simp;omega)) (Ok.ret rfl)
  ·have c4:=of_decide_eq_false c4
   refine Ok.ite (fun c7=>?_) fun c7=>?_
   ·have c7:=of_decide_eq_true c7
    rw [if_pos c7] at htx
    have hp0:=hw.p0;have hp1:=hw.p1
    have hd:=dec_len (u:=x.Print.toNat) (by omega)
    rw [decim_eq hp0 hp1,htx]
    refine Ok.chk (strl_s (by simp;omega)) ?_
    rw [Option.bind_some]
    exact Ok.chk (strl_s (by simp;omega)) (Ok.ret rfl)
   ·have c7:=of_decide_eq_false c7
    rw [if_neg c7] at htx
    refine Ok.ite (fun c9=>?_) fun c9=>?_
    ·have c9:=of_decide_eq_true c9
     rw [if_pos c9] at htx
     obtain ⟨k,hk⟩:∃k,x.Kids=[k]:=by rcases hx.kinds with ⟨h,_⟩|⟨h,_⟩|h|⟨h,h1⟩|⟨h,_⟩<;>first|exact h1|omega
     have hm:k∈x.Kids:=by rw [hk];simp
     have hg:x.Kids.getD 0 default=k:=by rw [hk];rfl
     have:=hkl k hm
     have:=kid_cnt hm
     have e9:wd x.Op=[110,111,116]:=by rw [c9];rfl
     rw [hg,htx,hk,e9]
     refine Ok.chk (strl_s (by simp)) (Ok.chk (inb_iff.2 ⟨by omega,by simp⟩) (Ok.bind (ihk k hm) fun y hy=>?_))
     subst hy
     exact Ok.chk (strl_s (by simp;omega)) (Ok.chk (strl_s (by simp;omega)) (Ok.ret rfl))
    ·have c9:=of_decide_eq_false c9
     rw [if_neg c9] at htx
     have c3:x.Op=10∨x.Op=11:=by rcases hx.kinds with ⟨h,_⟩|⟨h,_⟩|h|⟨h,_⟩|⟨h,_⟩<;>omega
     rw [if_pos c3] at htx
     have hjl:=join_len (sep_len x.Op) hkl
     refine Ok.bind (Ok.loop (Q:=fun r=>r=[40]++Lib.join (x.Kids.map GTerm.txt) ([32]++wd x.Op++[32])) (fun s:Str×Int=>∃n:Nat,s.2=(n:Int)∧n≤x.Kids.length∧s.1=[40]++Lib.join ((x.Kids.take n).map GTerm.txt) ([32]++wd x.Op++[32])) (fun s=>(x.Kids.length - s.2).toNat) (fun s hs=>?_) _ ⟨0,rfl,by omega,by simp [Lib.join_nil]⟩) fun r hr=>?_
     ·obtain ⟨s,i⟩:=s
      obtain ⟨n,h1,h2,h3⟩:=hs
      dsimp only at h1 h2 h3
      subst h1 h3
      refine Ok.ite (fun d=>?_) fun d=>?_
      ·have d:(n:Int)<x.Kids.length:=of_decide_eq_true d
       obtain ⟨k,hk,hg,ht⟩:=at_take (l:=x.Kids) (n:=n) (by omega)
       have hpl:=join_len (sep_len x.Op) (l:=x.Kids.take n) fun k hk=>hkl k (List.mem_of_mem_take hk)
       have hpc:=cnts_take x.Kids n
       have hkk:=hkl k hk
       have hkc:=kid_cnt hk
       dsimp only at hpl ⊢
       rw [Int.toNat_natCast,hg]
       refine Ok.jn (P:=fun j=>j.length≤61000∧j++k.txt=[40]++Lib.join ((x.Kids.take (n+1)).map GTerm.txt) ([32]++wd x.Op++[32])) (Ok.ite (fun f=>?_) fun f=>Ok.ret ?_) fun j hj=>?_
       ·have f:(0:Int)<n:=of_decide_eq_true f
        refine Ok.chk (strl_s (by simp;omega)) (Ok.chk (strl_s (by simp;omega)) (Ok.chk (strl_s (by
         simp only [List.length_append,List.length_cons,List.length_nil] at hpl ⊢;omega)) (Ok.ret ⟨by
         simp only [List.length_append,List.length_cons,List.length_nil] at hpl ⊢;omega,?_⟩)))
        rw [ht,List.map_append,List.map_singleton,join_snoc (by
         intro e
         have:=congrArg List.length e
         rw [List.length_map,List.length_take,List.length_nil] at this;omega)]
        simp
       ·have f:¬(0:Int)<n:=of_decide_eq_false f
        obtain rfl:n=0:=by omega
        rw [ht]
        exact ⟨by simp [Lib.join_nil],by simp [Lib.join_nil,Lib.join_cons,Lib.joinTail]⟩
       ·refine Ok.chk (inb_iff.2 ⟨by omega,d⟩) (Ok.bind (ihk k hk) fun y hy=>?_)
        subst hy
        obtain ⟨j1,j2⟩:=hj
        exact Ok.chk (strl_s (by omega)) (Ok.chk (in64_s (by omega) (by omega)) (Ok.ret ⟨⟨n+1,by dsimp only;omega,by omega,j2⟩,by dsimp only;omega⟩))
      ·have d:¬(n:Int)<x.Kids.length:=of_decide_eq_false d
       obtain rfl:n=x.Kids.length:=by omega
       rw [List.take_length]
       exact Ok.ret rfl
     ·subst hr
      rw [htx]
      exact Ok.chk (strl_s (by simp only [List.length_append,List.length_cons,List.length_nil] at hjl ⊢;omega)) (Ok.ret rfl)
theorem rwrite_eq {x:GTerm} (hx:Rgt x) (hw:Wf x) (hc:x.cnt≤1000):F_b x=some x.txt:=lim_of ⟨x.hgt,fun m hm=>(rwrite_ok x m hm hx hw hc).eq⟩
theorem rText_eq {l:List GRule} (hl:∀r∈l,LensR r) (h:VR' l) (hw:∀r∈l,Wf r.When):F_13 l=some (rtxt l,0):=by
 have hll:∀r∈l,r.line.length≤3700:=fun r hr=>line_len (h.r r hr).1 (h.r r hr).2.1 (hw r hr)
 have hn:=h.n
 refine Ok.eq ?_
 unfold F_13
 rw [rvalid_eq hl,verr_zero.2 h,Option.bind_some]
 refine Ok.ite (fun f=>by cases f) fun _=>?_
 refine Ok.bind (Ok.loop (Q:=fun r=>r=rtxt l) (fun s:Str×Int=>∃n:Nat,s.2=(n:Int)∧n≤l.length∧s.1=rtxt (l.take n)) (fun s=>(l.length - s.2).toNat) (fun s hs=>?_) _ ⟨0,rfl,by omega,by simp [rtxt]⟩) fun r hr=>by subst hr;exact Ok.ret rfl
 obtain ⟨s,i⟩:=s
 obtain ⟨n,h1,h2,h3⟩:=hs
 dsimp only at h1 h2 h3
 subst h1 h3
 unfold F_2k
 refine Ok.ite (fun d=>?_) fun d=>?_
 ·have d:(n:Int)<l.length:=of_decide_eq_true d
  obtain ⟨r,hr,hg,ht⟩:=at_take (l:=l) (n:=n) (by omega)
  have hpl:=rtxt_len (l:=l.take n) fun k hk=>hll k (List.mem_of_mem_take hk)
  have hi:inb (n:Int) l.length=true:=inb_iff.2 ⟨by omega,d⟩
  have h1:=(h.r r hr).1.2.2
  have h2:=(h.r r hr).2.1
  have h3:=txt_len r.When h2.rgt (hw r hr)
  have h4:=h2.cnt
  have h6:=hll r hr
  have hle:(l.take n).length≤40:=by rw [List.length_take];omega
  have hst:rtxt (l.take (n+1))=rtxt (l.take n)++r.line:=by rw [ht];simp [rtxt]
  dsimp only
  rw [Int.toNat_natCast,hg,rwrite_eq h2.rgt (hw r hr) (by omega)]
  refine Ok.jn (P:=fun j=>j.length≤5∧[58,32]++j++[32,105,102,32]=vw r.Verdict) (Ok.chk hi (Ok.ite (fun c=>Ok.ret ⟨by decide,by unfold vw;rw [if_pos (of_decide_eq_true c)];rfl⟩) fun c=>Ok.ret ⟨by decide,by unfold vw;rw [if_neg (of_decide_eq_false c)];rfl⟩)) fun j hj=>?_
  obtain ⟨j1,j2⟩:=hj
  have e:r.line=((((r.Name++[58,32])++j)++[32,105,102,32])++r.When.txt)++[10]:=by
   unfold GRule.line;rw [←j2];simp
  refine Ok.chk hi (Ok.chk (strl_s (by simp;omega)) (Ok.chk (strl_s (by simp;omega)) (Ok.chk (strl_s (by simp;omega)) (Ok.chk hi ?_))))
  rw [Option.bind_some,←e]
  refine Ok.chk (strl_s (by simp;omega)) (Ok.chk (strl_s (by simp;omega)) (Ok.chk (strl_s (by omega)) (Ok.chk (in64_s (by omega) (by omega)) (Ok.ret ⟨⟨n+1,by dsimp only;omega,by omega,hst.symm⟩,by dsimp only;omega⟩))))
 ·have d:¬(n:Int)<l.length:=of_decide_eq_false d
  obtain rfl:n=l.length:=by omega
  rw [List.take_length]
  exact Ok.ret rfl
theorem texts_same {l:List GRule} (hl:∀r∈l,LensR r) (hw:∀r∈l,Wf r.When):∃v,F_14 l=some v∧F_13 l=some v:=by
 by_cases c:verr l=0
 ·exact ⟨_,Text_eq (verr_zero.1 c) hw,rText_eq hl (verr_zero.1 c) hw⟩
 ·refine ⟨([],verr l),Ok.eq ?_,Ok.eq ?_⟩
  ·unfold F_14
   rw [valid_eq,Option.bind_some]
   refine Ok.ite (fun _=>Ok.ret rfl) fun f=>by simp [c] at f
  ·unfold F_13
   rw [rvalid_eq hl,Option.bind_some]
   refine Ok.ite (fun _=>Ok.ret rfl) fun f=>by simp [c] at f
end Go.Ab
namespace Go.Ab
open Go.Proofs
structure GR (r:GRule):Prop where
 n:r.Name.length≤9223372036854775807
 l:Lens r.When
 w:Wf r.When
theorem fact_term:∀x:GTerm,x.v.fact→Lens x∧Wf x:=by
 refine GTerm.ind fun x ih h=>?_
 rw [GTerm.v_eq] at h
 simp only [V.fact,V.factL] at h
 obtain ⟨_,h2,_,h4,⟨h5,h6⟩,_⟩:=h
 have hk:∀k∈x.Kids,Lens k∧Wf k:=fun k hk=>ih k hk (factA_iff.1 h6 _ (List.mem_map.2 ⟨k,hk,rfl⟩))
 rw [List.length_map] at h5
 exact ⟨.mk x h2 h5 fun k hm=>(hk k hm).1,.mk x h4.1 (by have:=h4.2;omega) fun k hm=>(hk k hm).2⟩
theorem fact_rule {r:GRule} (h:r.v.fact):GR r:=by
 unfold GRule.v at h
 simp only [V.fact,V.factL] at h
 obtain ⟨h1,h2,h3,h4,h5,h6,_⟩:=h
 have:=fact_term r.When (by rw [GTerm.v_eq];simp only [V.fact,V.factL];exact ⟨h2,h3,h4,h5,h6,trivial⟩)
 exact ⟨h1,this.1,this.2⟩
theorem fact_rules {l:List GRule} (h:(V.sl (l.map GRule.v)).fact):l.length≤9223372036854775807∧∀r∈l,GR r :=
 ⟨fact_sl h,fun r hr=>fact_rule (factA_iff.1 h.2 _ (List.mem_map.2 ⟨r,hr,rfl⟩))⟩
theorem bent_ok {t:GTape} {l:List GRule} (ht:TO t) (hl:l.length≤6) (hg:∀r∈l,GR r):Ok (F_1n t l) fun y=>y.1.length=l.length+1∧∀r∈y.1,GR r:=by
 unfold F_1n
 refine Ok.chk (room_s (by simp;omega)) (Ok.bind (made_termW 1 (by omega) ht) fun y2 h2=>?_)
 have hB:∀r∈((([]:List GRule)++l)++[(GRule.mk [108,97,115,116] y2.1 2)]),GR r:=by
  intro r hr
  rcases List.mem_append.1 hr with hr|hr
  ·exact hg r (by simpa using hr)
  ·cases List.mem_singleton.1 hr
   exact ⟨by simp,h2.1.lens (by have:=h2.2.2.1;omega),h2.2.1⟩
 have hBl:((([]:List GRule)++l)++[(GRule.mk [108,97,115,116] y2.1 2)]).length=l.length+1:=by simp
 refine Ok.chk (room_s (by simp;omega)) ?_
 generalize ((([]:List GRule)++l)++[(GRule.mk [108,97,115,116] y2.1 2)])=B at hB hBl ⊢
 refine Ok.bind (nx_ok h2.2.2.2.2 (by omega)) fun y4 h4=>?_
 have hi:inb y4.1 B.length=true:=inb_iff.2 ⟨h4.1,h4.2.1⟩
 have hG:GR (B.getD y4.1.toNat default):=by
  have hlt:y4.1.toNat<B.length:=by have:=h4.1;have:=h4.2.1;omega
  rw [List.getD_eq_getElem?_getD,List.getElem?_eq_getElem hlt]
  exact hB _ (List.getElem_mem hlt)
 generalize B.getD y4.1.toNat default=g at hG ⊢
 have lns:∀{o:Int} {w:GTerm},Lens w→Wf w→Lens (GTerm.mk o [] 0 0 [w])∧Wf (GTerm.mk o [] 0 0 [w]):=fun {o w} h1 h2=>⟨.mk _ (by simp) (by simp) (by simp;exact h1),.mk _ (by show (0:Int)≤0;omega) (by show (0:Int)<_;omega) (by simp;exact h2)⟩
 refine Ok.chk hi (Ok.jn (P:=fun j=>GR j.1) (Ok.bind (nx_ok h4.2.2 (by omega)) fun y hy=>?_) fun j hj=>Ok.chk hi (Ok.ret ⟨by dsimp only;rw [List.length_set];exact hBl,fun r hr=>?_⟩))
 ·refine Ok.ite (fun _=>Ok.bind (nx_ok hy.2.2 (by omega)) fun z hz=>Ok.chk (inb_iff.2 ⟨hz.1,hz.2.1⟩) (Ok.ret ⟨?_,hG.l,hG.w⟩)) fun _=>?_
  ·have:z.1.toNat=0∨z.1.toNat=1∨z.1.toNat=2∨z.1.toNat=3:=by have:=hz.1;have:=hz.2.1;omega
   dsimp only
   rcases this with e|e|e|e<;>rw [e]<;>decide
  refine Ok.ite (fun _=>Ok.bind (btw_ok hy.2.2 (by omega) (by omega) (by omega)) fun z hz=>Ok.ret ⟨hG.n,hG.l,hG.w⟩) fun _=>?_
  refine Ok.ite (fun _=>Ok.bind (btw_ok hy.2.2 (by omega) (by omega) (by omega)) fun z hz=>Ok.ret ⟨hG.n,.mk _ hG.l.tl hG.l.kl fun k hk=>hG.l.kid hk,.mk _ hG.w.p0 hG.w.p1 fun k hk=>hG.w.kid hk⟩) fun _=>?_
  refine Ok.ite (fun _=>Ok.bind (nx_ok hy.2.2 (by omega)) fun z hz=>Ok.chk (inb_iff.2 ⟨hz.1,hz.2.1⟩) (Ok.ret ⟨hG.n,.mk _ ?_ hG.l.kl fun k hk=>hG.l.kid hk,.mk _ hG.w.p0 hG.w.p1 fun k hk=>hG.w.kid hk⟩)) fun _=>?_
  ·have:z.1.toNat=0∨z.1.toNat=1∨z.1.toNat=2∨z.1.toNat=3:=by have:=hz.1;have:=hz.2.1;omega
   dsimp only
   rcases this with e|e|e|e<;>rw [e]<;>decide
  refine Ok.ite (fun _=>Ok.bind (btw_ok hy.2.2 (by omega) (by omega) (by omega)) fun z hz=>Ok.ret ⟨hG.n,(lns hG.l hG.w).1,(lns hG.l hG.w).2⟩) fun _=>?_
  refine Ok.bind (nx_ok hy.2.2 (by omega)) fun z hz=>Ok.bind (Ok.loop (Q:=fun r=>GR r) (fun s:Int×GRule=>0≤s.1∧s.1≤25∧GR s.2) (fun s=>s.1.toNat) (fun s hs=>?_) _ ⟨hz.1,by have:=hz.2.1;dsimp only;omega,hG⟩) fun r hr=>Ok.ret hr
  obtain ⟨k,r⟩:=s
  obtain ⟨h1,h2,h3⟩:=hs
  dsimp only at h1 h2 h3
  unfold F_2g
  refine Ok.ite (fun c=>?_) fun c=>Ok.ret h3
  have c:0<k:=of_decide_eq_true c
  exact Ok.chk (in64_s (by dsimp only;omega) (by dsimp only;omega)) (Ok.ret ⟨⟨by dsimp only;omega,by dsimp only;omega,h3.n,(lns h3.l h3.w).1,(lns h3.l h3.w).2⟩,by dsimp only;omega⟩)
 ·rcases List.mem_or_eq_of_mem_set hr with hr|rfl
  ·exact hB r hr
  ·exact hj
theorem size_mono:∀n (x:GTerm),Le (FR_3 n x) (FR_3 (n+1) x)
 | 0,x=>by rw [FR_3];exact Le.non
 | n+1,x=>by
  have ih:=size_mono n
  rw [FR_3,FR_3]
  (repeat' (with_reducible first|exact Le.refl|assumption|(refine Le.bind ?_ fun _=>?_)|(refine Le.jn ?_ fun _=>?_)|(refine Le.grp fun _=>?_)|(refine Le.chk ?_)|(refine Le.cond ?_ ?_)|(refine Le.fl (fun _=>?_) fun _=>?_)|(refine Le.sum (fun _=>?_) fun _=>?_)|(refine Le.loopL fun _=>?_)))
  all_goals exact ih _
theorem size_ok:∀(x:GTerm) (m:Nat),x.hgt≤m→Ok (FR_3 m x) fun r=>1≤r∧r≤1000:=by
 refine GTerm.ind fun x ih m hm=>?_
 obtain ⟨m,rfl⟩:∃n,m=n+1:=⟨m - 1,by have:=hgt_pos x;omega⟩
 rw [FR_3]
 refine Ok.bind (Ok.loop (Q:=fun r=>1≤r∧r≤1000) (fun s:Int×Int=>1≤s.1∧s.1≤1000∧0≤s.2∧(s.2<s.1∨s.1=1000)) (fun s=>(x.Kids.length - s.2).toNat) (fun s hs=>?_) _ ⟨by omega,by omega,by omega,by dsimp only;omega⟩) fun r hr=>Ok.ret hr
 obtain ⟨s,i⟩:=s
 obtain ⟨h1,h2,h3,h4⟩:=hs
 dsimp only at h1 h2 h3 h4
 refine Ok.grp (Ok.ite (fun c=>?_) fun c=>Ok.ret ⟨h1,h2⟩)
 simp only [Bool.and_eq_true,decide_eq_true_eq] at c
 have hlt:i.toNat<x.Kids.length:=by omega
 have hmem:x.Kids.getD i.toNat default∈x.Kids:=by rw [List.getD_eq_getElem?_getD,List.getElem?_eq_getElem hlt];exact List.getElem_mem hlt
 refine Ok.chk (inb_iff.2 ⟨h3,c.1⟩) (Ok.bind (ih _ hmem m (by have:=kid_hgt hmem;omega)) fun y hy=>Ok.chk (in64_s (by dsimp only;omega) (by dsimp only;omega)) (Ok.chk (in64_s (by dsimp only;omega) (by dsimp only;omega)) (Ok.ret ⟨⟨by dsimp only;omega,by dsimp only;omega,by dsimp only;omega,by dsimp only;omega⟩,by dsimp only;omega⟩)))
theorem few_ok (l:List GRule):Ok (F_1o l) fun _=>True:=by
 unfold F_1o
 refine Ok.ite (fun _=>Ok.ret trivial) fun c=>?_
 have c:=of_decide_eq_false c
 refine Ok.bind (Ok.loop (Q:=fun _=>True) (fun i:Int=>0≤i∧i≤l.length) (fun i=>(l.length - i).toNat) (fun i hi=>?_) _ ⟨by omega,by omega⟩) fun r _=>?_
 ·unfold F_2h
  refine Ok.ite (fun d=>?_) fun d=>Ok.ret trivial
  have d:i<l.length:=of_decide_eq_true d
  refine Ok.chk (inb_iff.2 ⟨hi.1,d⟩) (Ok.bind (Ok.lim (f:=fun n=>FR_3 n _) (fun n=>size_mono n _) _ (size_ok _ _ (Nat.le_refl _))) fun y hy=>Ok.ite (fun _=>Ok.ret trivial) fun _=>Ok.chk (in64_s (by omega) (by omega)) (Ok.ret ⟨⟨by omega,by omega⟩,by omega⟩))
 ·cases r with
  | inl _=>exact Ok.ret trivial
  | inr _=>exact Ok.ret trivial
theorem one_ok {y4:List GRule×GTape} {a:List GRule} (k:Int) (hl:a.length≤9223372036854775807) (hg:∀r∈a,GR r):F_1w y4 k a ()=some (.nx ()):=by
 classical
 refine Ok.eq ?_
 unfold F_1w
 refine Ok.bind (few_ok a) fun q _=>Ok.ite (fun _=>Ok.ret rfl) fun _=>?_
 obtain ⟨v,e1,e2⟩:=texts_same (l:=a) (fun r hr=>⟨(hg r hr).n,(hg r hr).l⟩) fun r hr=>(hg r hr).w
 rw [e1,e2,Option.bind_some,Option.bind_some]
 refine Ok.grp (Ok.ite (fun f=>by simp at f) fun _=>?_)
 rw [Same_eq a y4.1,rSame_eq a y4.1 hl fun r hr=>(hg r hr).l,Option.bind_some,Option.bind_some]
 refine Ok.ite (fun f=>by simp at f) fun _=>?_
 rw [Same_eq a a,Option.bind_some]
 exact Ok.ite (fun f=>by simp at f) fun _=>Ok.ret rfl
theorem texts21 {tape:List Int} {raw:List GRule} (ht:(V.sl (tape.map (V.int .i64))).fact) (hr:(V.sl (raw.map GRule.v)).fact):F_26 tape raw=some true:=by
 have h0:TO (GTape.mk tape 0):=⟨Int.le_refl 0,Int.ofNat_le.2 (fact_sl ht)⟩
 have hw:=fact_rules hr
 refine Ok.eq ?_
 unfold F_26
 refine Ok.bind (nx_ok h0 (by omega)) fun y3 h3=>Ok.bind (rules_made h3.2.2 h3.1 (by have:=h3.2.1;omega)) fun y4 h4=>?_
 have hn:y4.1.length≤6:=by have:=h3.2.1;have:=h4.2.1;omega
 have hv:=h4.1.vr hn
 have hg:∀r∈y4.1,GR r:=fun r hr=>⟨by have:=(hv.r r hr).1.2.2;omega,(hv.r r hr).2.1.rgt.lens (by have:=(hv.r r hr).2.1.cnt;omega),(h4.1.r r hr).2.1⟩
 refine Ok.bind (bent_ok h4.2.2 hn hg) fun y5 h5=>?_
 have e:forL (F_1w y4) [raw,y4.1,y5.1] 0 ()=some (.nx ()):=by
  simp only [forL,one_ok _ hw.1 hw.2,one_ok _ (by omega:y4.1.length≤9223372036854775807) hg,one_ok _ (by have:=h5.1;omega:y5.1.length≤9223372036854775807) h5.2,Option.bind_some,Fl.elim]
 rw [e,Option.bind_some]
 show Ok (F_12.bind _) _
 rw [awake21]
 exact Ok.ret rfl
theorem call21t {tape:List Int} {raw:List GRule}:ACall Tryz.prog 7 [.sl (tape.map (V.int .i64)),.sl (raw.map GRule.v)] [] (fun r H=>r=.bool true∧H=[]) :=
 acall_fact2 (by kernel_rfl) fun h=>Wq_26.w (texts21 (h _ (by simp)) (h _ (by simp)))
end Go.Ab
namespace Go.Ab
open Go.Proofs Go.RowKit
def RKid (x:V):Prop:=∃l:List GTerm,x=.sl (l.map GTerm.v)
def rho21 (t:TypeId):Option (V→Prop):=bif Nat.beq t 43 then some RKid else none
theorem has_c {s:Sh} {r:List Sh}:∀{xs:List V},Sh.hasL (s::r) xs→∃x q,xs=x::q∧s.has x∧Sh.hasL r q
 | [],h=>h.elim
 | x::q,h=>⟨x,q,rfl,h.1,h.2⟩
theorem has_n:∀{xs:List V},Sh.hasL [] xs→xs=[]
 | [],_=>rfl
 | _::_,h=>h.elim
theorem termOK {zs:List V} (h:Sh.hasL [.int .i64,.str,.int .i64,.int .u64,.rk RKid] zs):∃a:GTerm,(.agg zs:V)=GTerm.v a:=by
 obtain ⟨_,q1,rfl,⟨n0,rfl,_⟩,k1⟩:=has_c h
 obtain ⟨_,q2,rfl,⟨n1,rfl⟩,k2⟩:=has_c k1
 obtain ⟨_,q3,rfl,⟨n2,rfl,_⟩,k3⟩:=has_c k2
 obtain ⟨_,q4,rfl,⟨n3,rfl,_⟩,k4⟩:=has_c k3
 obtain ⟨_,q5,rfl,⟨l,rfl⟩,k5⟩:=has_c k4
 obtain rfl:=has_n k5
 exact ⟨⟨n0,n1,n2,n3,l⟩,by rw [GTerm.v_eq]⟩
theorem ruleOK {zs:List V} (h:Sh.hasL [.str,.int .i64,.str,.int .i64,.int .u64,.rk RKid,.int .i64] zs):∃a:GRule,(.agg zs:V)=GRule.v a:=by
 obtain ⟨_,q0,rfl,⟨m,rfl⟩,k0⟩:=has_c h
 obtain ⟨_,q1,rfl,⟨n0,rfl,_⟩,k1⟩:=has_c k0
 obtain ⟨_,q2,rfl,⟨n1,rfl⟩,k2⟩:=has_c k1
 obtain ⟨_,q3,rfl,⟨n2,rfl,_⟩,k3⟩:=has_c k2
 obtain ⟨_,q4,rfl,⟨n3,rfl,_⟩,k4⟩:=has_c k3
 obtain ⟨_,q5,rfl,⟨l,rfl⟩,k5⟩:=has_c k4
 obtain ⟨_,q6,rfl,⟨v,rfl,_⟩,k6⟩:=has_c k5
 obtain rfl:=has_n k6
 exact ⟨⟨m,⟨n0,n1,n2,n3,l⟩,v⟩,rfl⟩
theorem rulesOK {y:V} (h:Sh.has (.sl true [.str,.int .i64,.str,.int .i64,.int .u64,.rk RKid,.int .i64]) y):∃a:List GRule,y=.sl (a.map GRule.v):=by
 obtain ⟨ys,rfl,h⟩:=h
 obtain ⟨l,rfl⟩:=map_of (f:=GRule.v) (ys:=ys) fun y hy=>by
  obtain ⟨zs,rfl,hz⟩:=h y hy
  exact ruleOK hz
 exact ⟨l,rfl⟩
theorem rho_at21:∀t R,rho21 t=some R→RhoAt Tryz.prog rho21 30 t R:=by
 intro t R h
 unfold rho21 at h
 by_cases c:Nat.beq t 43=true
 ·rw [c] at h;cases h
  obtain rfl:=Nat.eq_of_beq_eq_true c
  refine ⟨45,true,[.int .i64,.str,.int .i64,.int .u64,.rk RKid],by kernel_rfl,by kernel_rfl,by kernel_rfl,fun ys hl h=>?_⟩
  obtain ⟨l,rfl⟩:=map_of (f:=GTerm.v) (ys:=ys) fun y hy=>by
   obtain ⟨zs,rfl,hz⟩:=h y hy
   exact termOK hz
  exact ⟨l,rfl⟩
 ·rw [Bool.not_eq_true] at c
  rw [c] at h;cases h
end Go.Ab
