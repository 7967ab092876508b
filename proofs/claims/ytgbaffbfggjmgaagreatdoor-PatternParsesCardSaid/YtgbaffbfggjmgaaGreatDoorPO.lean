/- Patterns: heights, numbers of nodes, and which are right. -/
import Derived.Test.YtgbaffbfggjmgaaGreatDoorLA
import Derived.Test.YtgbaffbfggjmgaaGreatDoorAbHo
import Derived.Test.YtgbaffbfggjmgaaGreatDoorLD
import Derived.Test.YtgbaffbfggjmgaaGreatDoorAbMir
import Derived.Test.YtgbaffbfggjmgaaGreatDoorAbTop
import Derived.Test.YtgbaffbfggjmgaaGreatDoorMI
import Derived.Test.YtgbaffbfggjmgaaGreatDoorAbStr
import Derived.Test.YtgbaffbfggjmgaaGreatDoorLB
set_option linter.all false
set_option linter.all false
namespace Go.Ab
open Go.Proofs
theorem in64_s {n:Int} (h1:-1000000000000000≤n) (h2:n≤1000000000000000):in64 n=true:=in64_iff.2 ⟨by omega,by omega⟩
theorem room_s {n b:Nat} (h:n*b≤100000000):room n b=true:=room_iff.2 (by omega)
theorem getD_at {α:Type} [Inhabited α] {l pre r:List α} {x:α} (hw:l=pre++x::r):l.getD pre.length default=x:=by rw [hw];simp
theorem len_at {α:Type} {l pre r:List α} {x:α} (hw:l=pre++x::r):pre.length<l.length:=by rw [hw];simp
theorem mem_at {α:Type} {l pre r:List α} {x:α} (hw:l=pre++x::r):x∈l:=by rw [hw];simp
mutual
def GNode.hgt:GNode→Nat
 | ⟨_,_,k,_,_⟩=>GNode.hgts k+1
def GNode.hgts:List GNode→Nat
 | []=>0
 | a::r=>max (GNode.hgt a) (GNode.hgts r)
end
theorem hgt_eq (x:GNode):x.hgt=GNode.hgts x.Kids+1:=by cases x;simp only [GNode.hgt]
theorem hgts_mem:∀{l:List GNode} {k:GNode},k∈l→k.hgt≤GNode.hgts l
 | a::r,k,h=>by
  simp only [GNode.hgts]
  rcases List.mem_cons.1 h with rfl|h
  ·omega
  ·have:=hgts_mem h;omega
theorem kid_hgt {x k:GNode} (h:k∈x.Kids):k.hgt<x.hgt:=by rw [hgt_eq x];have:=hgts_mem h;omega
theorem hgt_pos (x:GNode):1≤x.hgt:=by rw [hgt_eq];omega
theorem GNode.ind {P:GNode→Prop} (h:∀x,(∀k∈x.Kids,P k)→P x):∀x,P x:=by
 have:∀n (x:GNode),x.hgt≤n→P x:=by
  intro n
  induction n with
  | zero=>intro x hx;have:=hgt_pos x;omega
  | succ n ih=>intro x hx;exact h x fun k hk=>ih k (by have:=kid_hgt hk;omega)
 exact fun x=>this x.hgt x (Nat.le_refl _)
mutual
def GNode.cnt:GNode→Int
 | ⟨_,_,k,_,_⟩=>GNode.cnts k+1
def GNode.cnts:List GNode→Int
 | []=>0
 | a::r=>GNode.cnt a+GNode.cnts r
end
theorem cnt_eq (x:GNode):x.cnt=GNode.cnts x.Kids+1:=by cases x;simp only [GNode.cnt]
theorem cnts_nn':∀{l:List GNode},(∀k∈l,1≤k.cnt)→(l.length:Int)≤GNode.cnts l
 | [],_=>by simp [GNode.cnts]
 | a::r,h=>by
  have h1:=h a (by simp)
  have h2:=cnts_nn' (l:=r) fun k hk=>h k (by simp [hk])
  simp only [GNode.cnts,List.length_cons];omega
theorem cnt_pos:∀x:GNode,1≤x.cnt:=GNode.ind fun x ih=>by rw [cnt_eq];have:=cnts_nn' ih;omega
theorem cnts_len (l:List GNode):(l.length:Int)≤GNode.cnts l:=cnts_nn' fun k _=>cnt_pos k
theorem cnts_append:∀a b:List GNode,GNode.cnts (a++b)=GNode.cnts a+GNode.cnts b
 | [],b=>by simp [GNode.cnts]
 | x::r,b=>by simp only [List.cons_append,GNode.cnts,cnts_append r b];omega
theorem cnts_mem {l:List GNode} {k:GNode} (h:k∈l):k.cnt≤GNode.cnts l:=by
 obtain ⟨a,b,rfl⟩:=List.append_of_mem h
 have h1:=cnts_len a
 have h2:=cnts_len b
 rw [cnts_append];simp only [GNode.cnts];omega
theorem kid_cnt {x k:GNode} (h:k∈x.Kids):k.cnt<x.cnt:=by rw [cnt_eq x];have:=cnts_mem h;omega
theorem kids_cnt (x:GNode):(x.Kids.length:Int)<x.cnt:=by rw [cnt_eq x];have:=cnts_len x.Kids;omega
theorem hgt_cnt:∀x:GNode,(x.hgt:Int)≤x.cnt:=GNode.ind fun x ih=>by
 have:∀l:List GNode,(∀k∈l,(k.hgt:Int)≤k.cnt)→(GNode.hgts l:Int)≤GNode.cnts l:=by
  intro l
  induction l with
  | nil=>intro _;simp [GNode.hgts,GNode.cnts]
  | cons a r ih =>
   intro h
   have h1:=h a (by simp)
   have h2:=ih fun k hk=>h k (by simp [hk])
   have h3:=cnts_len r
   have h4:=cnt_pos a
   simp only [GNode.hgts,GNode.cnts];omega
 have:=this x.Kids ih
 rw [hgt_eq,cnt_eq];omega
theorem nodes_ok:∀(x:GNode) (m:Nat),x.hgt≤m→Ok (FR_g m x) (·=min x.cnt 201):=by
 refine GNode.ind fun x ih m hm=>?_
 cases m with
 | zero=>have:=hgt_pos x;omega
 | succ m =>
  simp only [FR_g]
  refine Ok.bind (Ok.forI (all:=x.Kids) (Q:=fun o=>o=if 1+GNode.cnts x.Kids≤200 then .nx (1+GNode.cnts x.Kids) else .ex 201) (fun pre s=>s=1+GNode.cnts pre∧s≤200) x.Kids [] 0 1 rfl rfl ⟨by simp [GNode.cnts],by omega⟩ (fun pre k r s hw hs=>?_) fun s hs=>?_) fun o ho=>?_
  ·obtain ⟨hs,hs2⟩:=hs
   have hk:=mem_at hw
   have h1:=cnts_len pre
   have h2:=cnts_len r
   have h3:=cnt_pos k
   have hc:GNode.cnts x.Kids=GNode.cnts pre+(k.cnt+GNode.cnts r):=by rw [hw,cnts_append];simp only [GNode.cnts]
   refine Ok.bind (ih k hk m (by have:=kid_hgt hk;omega)) fun y hy=>?_
   subst hy
   refine Ok.chk (in64_s (by omega) (by omega)) (Ok.ite (fun c=>?_) fun c=>?_)
   ·have c:=of_decide_eq_true c
    refine Ok.ret ?_
    show Fl.ex 201=_
    rw [if_neg (by omega)]
   ·have c:=of_decide_eq_false c
    exact Ok.ret ⟨by rw [cnts_append];simp only [GNode.cnts];omega,by omega⟩
  ·rw [if_pos (by omega),←hs.1]
  ·subst ho
   rw [cnt_eq]
   by_cases c:1+GNode.cnts x.Kids≤200
   ·rw [if_pos c];exact Ok.ret (by show _=min _ _;omega)
   ·rw [if_neg c];exact Ok.ret (by show _=min _ _;omega)
theorem nodes_eq (x:GNode):F_g x=some (min x.cnt 201):=lim_of ⟨x.hgt,fun m hm=>(nodes_ok x m hm).eq⟩
theorem hgts_append:∀a b:List GNode,GNode.hgts (a++b)=max (GNode.hgts a) (GNode.hgts b)
 | [],b=>by simp [GNode.hgts]
 | x::r,b=>by simp only [List.cons_append,GNode.hgts,hgts_append r b];omega
theorem depth_ok:∀(x:GNode) (m:Nat) (left:Int),x.hgt≤m→0≤left→left≤1000→Ok (FR_h m x left) (·=min (x.hgt:Int) (left+1)):=by
 refine GNode.ind fun x ih m left hm h0 h1=>?_
 cases m with
 | zero=>have:=hgt_pos x;omega
 | succ m =>
  have hp:=hgt_pos x
  simp only [FR_h]
  refine Ok.ite (fun c=>?_) fun c=>?_
  ·have c:=of_decide_eq_true c
   exact Ok.ret (by show _=min _ _;omega)
  ·have c:=of_decide_eq_false c
   refine Ok.bind (Ok.foldI (all:=x.Kids) (Q:=fun o=>o=min (GNode.hgts x.Kids:Int) left) (fun pre s=>s=min (GNode.hgts pre:Int) left) x.Kids [] 0 0 rfl rfl (by simp only [GNode.hgts];omega) (fun pre k r s hw hs=>?_) fun s hs=>hs) fun o ho=>?_
   ·have hk:=mem_at hw
    refine Ok.chk (in64_s (by omega) (by omega)) (Ok.bind (ih k hk m (left - 1) (by have:=kid_hgt hk;omega) (by omega) (by omega)) fun y hy=>Ok.ret ?_)
    subst hy hs
    rw [hgts_append];simp only [GNode.hgts];omega
   ·subst ho
    refine Ok.chk (in64_s (by omega) (by omega)) (Ok.ret ?_)
    rw [hgt_eq];omega
theorem depth_eq (x:GNode):F_h x 20=some (min (x.hgt:Int) 21):=lim_of ⟨x.hgt,fun m hm=>(depth_ok x m 20 hm (by omega) (by omega)).eq⟩
def rng1 (l:List GRange) (i:Nat):Prop:=(l.getD i default).Low.toNat≤(l.getD i default).High.toNat∧(0<i→(l.getD (i - 1) default).High.toNat+1<(l.getD i default).Low.toNat)
def rngP (l:List GRange):Prop:=∀i,i<l.length→rng1 l i
def okN (x:GNode):Prop :=
 (x.Op=1∧rngP x.Ranges∧x.Ranges≠[]∧x.Kids=[]∧x.Min=0∧x.Max=0) ∨
 ((x.Op=2∨x.Op=3)∧2≤x.Kids.length∧x.Ranges=[]∧x.Min=0∧x.Max=0∧∀k∈x.Kids,k.Op≠x.Op) ∨
 (x.Op=4∧x.Kids.length=1∧x.Ranges=[]∧0≤x.Min∧1≤x.Max∧x.Min≤x.Max∧x.Max≤64∧¬(x.Min=1∧x.Max=1))
inductive Rgt:GNode→Prop
 | mk (x:GNode) (h:okN x) (hk:∀k∈x.Kids,Rgt k):Rgt x
theorem Rgt.ok {x:GNode} (h:Rgt x):okN x:=by cases h;assumption
theorem Rgt.kid {x k:GNode} (h:Rgt x) (hk:k∈x.Kids):Rgt k:=by cases h with|mk _ _ h=>exact h k hk
theorem rng_lo {l:List GRange}:∀i,(∀j,j≤i→rng1 l j)→2*i≤(l.getD i default).Low.toNat
 | 0,h=>by omega
 | i+1,h=>by
  have ih:=rng_lo i fun j hj=>h j (by omega)
  have h1:=(h i (by omega)).1
  have h2:=(h (i+1) (Nat.le_refl _)).2 (by omega)
  simp only [Nat.add_sub_cancel] at h2
  omega
theorem rng_len {l:List GRange} (h:rngP l):l.length≤128:=by
 by_cases c:l.length≤128
 ·exact c
 ·have:=rng_lo (l:=l) 128 fun j hj=>h j (by omega)
  have:=(l.getD 128 default).Low.toNat_lt
  omega
theorem toNat_inj' {a b:UInt8} (h:(a.toNat:Int)=b.toNat):a=b:=UInt8.toNat_inj.1 (by omega)
open Classical in
theorem set_ok (x:GNode):F_1l x=some (decide (rngP x.Ranges∧x.Ranges≠[]∧x.Kids=[]∧x.Min=0∧x.Max=0)):=by
 refine Ok.eq ?_
 unfold F_1l
 refine Ok.bind (Ok.forI (all:=x.Ranges) (Q:=fun o=>(o=.nx ()∧rngP x.Ranges)∨(o=.ex false∧¬rngP x.Ranges)) (fun pre _=>∀i,i<pre.length→rng1 x.Ranges i) x.Ranges [] 0 () rfl rfl (by simp) (fun pre r q s hw hs=>?_) fun s hs=>.inl ⟨rfl,hs⟩) fun o ho=>?_
 ·have hl:=len_at hw
  have hr:=getD_at hw
  have hb:pre.length≤128:=by
   by_cases c:pre.length≤128
   ·exact c
   ·have:=rng_lo (l:=x.Ranges) 128 fun j hj=>hs j (by omega)
    have:=(x.Ranges.getD 128 default).Low.toNat_lt
    omega
  unfold F_26
  refine Ok.ite (fun c=>?_) fun c=>Ok.ite (fun c2=>?_) fun c2=>?_
  ·have c:=of_decide_eq_true c
   refine Ok.ret (.inr ⟨rfl,fun h=>?_⟩)
   have:=(h _ hl).1
   rw [hr] at this;omega
  ·have c:=of_decide_eq_false c
   have c2:=of_decide_eq_true c2
   have e1:((pre.length:Int) - 1).toNat=pre.length - 1:=by omega
   have hlt:=(x.Ranges.getD (pre.length - 1) default).High.toNat_lt
   refine Ok.chk (in64_s (by omega) (by omega)) (Ok.chk (inb_iff.2 ⟨by omega,by omega⟩) ?_)
   rw [e1]
   refine Ok.chk (in64_s (by omega) (by omega)) (Ok.ite (fun c3=>?_) fun c3=>?_)
   ·have c3:=of_decide_eq_true c3
    refine Ok.ret (.inr ⟨rfl,fun h=>?_⟩)
    have:=(h _ hl).2 (by omega)
    rw [hr] at this;omega
   ·have c3:=of_decide_eq_false c3
    refine Ok.ret fun i hi=>?_
    simp only [List.length_append,List.length_singleton] at hi
    by_cases e:i=pre.length
    ·subst e
     exact ⟨by rw [hr];omega,fun _=>by rw [hr];omega⟩
    ·exact hs i (by omega)
  ·have c:=of_decide_eq_false c
   have c2:=of_decide_eq_false c2
   refine Ok.ret fun i hi=>?_
   simp only [List.length_append,List.length_singleton] at hi
   have e:i=pre.length:=by omega
   subst e
   exact ⟨by rw [hr];omega,fun h=>by omega⟩
 ·rcases ho with ⟨rfl,h⟩|⟨rfl,h⟩
  ·refine Ok.grp (Ok.grp (Ok.grp (Ok.ret ?_)))
   rw [Bool.eq_iff_iff]
   simp only [Bool.and_eq_true,decide_eq_true_eq]
   constructor
   ·rintro ⟨⟨⟨h1,h2⟩,h3⟩,h4⟩
    exact ⟨h,fun e=>by simp [e] at h1,List.length_eq_zero_iff.1 (by omega),h3,h4⟩
   ·rintro ⟨_,h1,h2,h3,h4⟩
    have:=List.length_pos_iff.2 h1
    exact ⟨⟨⟨by omega,by simp [h2]⟩,h3⟩,h4⟩
  ·refine Ok.ret ?_
   show false=_
   rw [eq_comm,decide_eq_false_iff_not]
   exact fun h'=>h h'.1
theorem contains_go {α:Type} {body:Int→α→Unit→Option (Fl Unit Int)} (p:α→Prop) [DecidablePred p]:∀(xs:List α) (k:Int),0≤k→(∀k x,x∈xs→body k x ()=some (if p x then .ex k else .nx ())) →
  ∃o,forL body xs k ()=some o∧((∃x∈xs,p x)→∃r,o=.ex r∧0≤r)∧((∀x∈xs,¬p x)→o=.nx ())
 | [],k,hk,h=>⟨.nx (),rfl,fun ⟨x,hx,_⟩=>by simp at hx,fun _=>rfl⟩
 | x::r,k,hk,h=>by
  simp only [forL,h k x (by simp)]
  by_cases c:p x
  ·simp only [if_pos c,Option.bind_some,Fl_ex]
   exact ⟨_,rfl,fun _=>⟨k,rfl,hk⟩,fun hn=>absurd c (hn x (by simp))⟩
  ·simp only [if_neg c,Option.bind_some,Fl_nx]
   obtain ⟨o,h1,h2,h3⟩:=contains_go p r (k+1) (by omega) fun k y hy=>h k y (by simp [hy])
   refine ⟨o,h1,fun ⟨y,hy,hp⟩=>?_,fun hn=>h3 fun y hy=>hn y (by simp [hy])⟩
   rcases List.mem_cons.1 hy with rfl|hy
   ·exact absurd hp c
   ·exact h2 ⟨y,hy,hp⟩
open Classical in
theorem contains_b {α:Type} {body:Int→α→Unit→Option (Fl Unit Int)} (p:α→Prop) (xs:List α) [Decidable (∃x∈xs,p x)] (h:∀k x,x∈xs→body k x ()=some (if p x then .ex k else .nx ())) :
  (((forL body xs 0 ()).bind fun o=>o.elim (fun _=>some (-1)) fun r=>some r).bind fun y=>some (decide (0≤y)))=some (decide (∃x∈xs,p x)):=by
 obtain ⟨o,h1,h2,h3⟩:=contains_go p xs 0 (Int.le_refl 0) h
 rw [h1]
 by_cases c:∃x∈xs,p x
 ·obtain ⟨r,rfl,hr⟩:=h2 c
  simp only [Option.bind_some,Fl_ex,decide_eq_true hr,decide_eq_true c]
 ·have:=h3 fun x hx hp=>c ⟨x,hx,hp⟩
  subst this
  simp only [Option.bind_some,Fl_nx,decide_eq_false c]
  rfl
open Classical in
theorem several_ok (x:GNode):F_1m x=some (decide (2≤x.Kids.length∧x.Ranges=[]∧x.Min=0∧x.Max=0∧∀k∈x.Kids,k.Op≠x.Op)):=by
 have hc:F_21 x.Kids x=some (decide (∃k∈x.Kids,k.Op=x.Op)) :=
  contains_b (body:=F_20 x) (fun k:GNode=>k.Op=x.Op) x.Kids fun k y _=>by
   by_cases c:y.Op=x.Op<;>simp [F_20,F_1c,c]
 refine Ok.eq ?_
 unfold F_1m
 refine Ok.grp (Ok.grp (Ok.grp (Ok.jn (P:=fun b=>b=decide (2≤x.Kids.length∧x.Ranges=[]∧x.Min=0∧x.Max=0∧∀k∈x.Kids,k.Op≠x.Op)) ?_ fun y hy=>Ok.ret hy)))
 refine Ok.ite (fun c=>?_) fun c=>Ok.ret ?_
 ·rw [hc]
  refine Ok.ret ?_
  simp only [Bool.and_eq_true,decide_eq_true_eq] at c
  rw [Bool.eq_iff_iff]
  simp only [Bool.not_eq_true',decide_eq_false_iff_not,decide_eq_true_eq]
  constructor
  ·intro h
   exact ⟨by omega,List.length_eq_zero_iff.1 (by omega),c.1.2,c.2,fun k hk e=>h ⟨k,hk,e⟩⟩
  ·rintro ⟨_,_,_,_,h⟩ ⟨k,hk,e⟩
   exact h k hk e
 ·rw [eq_comm,decide_eq_false_iff_not]
  rintro ⟨h1,h2,h3,h4,_⟩
  simp [h2,h3,h4] at c
  omega
open Classical in
theorem repeat_ok (x:GNode):F_1n x=some (decide (x.Kids.length=1∧x.Ranges=[]∧0≤x.Min∧1≤x.Max∧x.Min≤x.Max∧x.Max≤64∧¬(x.Min=1∧x.Max=1))):=by
 refine Ok.eq ?_
 unfold F_1n
 refine Ok.grp (Ok.grp (Ok.jn (P:=fun b=>b=decide (((x.Kids.length:Int)=1∧(x.Ranges.length:Int)=0)∧0≤x.Min∧max x.Min 1≤x.Max)) ?_ fun y hy=>Ok.grp (Ok.grp (Ok.ret ?_))))
 ·refine Ok.ite (fun c=>Ok.ret ?_) fun c=>Ok.ret ?_
  ·simp only [Bool.and_eq_true,decide_eq_true_eq] at c
   rw [decide_eq_decide]
   exact ⟨fun h=>⟨c.1,c.2,h⟩,fun h=>h.2.2⟩
  ·rw [eq_comm,decide_eq_false_iff_not]
   intro h
   simp [h.1.1,h.1.2,h.2.1] at c
 ·subst hy
  rw [Bool.eq_iff_iff]
  simp only [Bool.and_eq_true,decide_eq_true_eq,Bool.or_eq_true,Bool.not_eq_true',decide_eq_false_iff_not]
  constructor
  ·rintro ⟨⟨⟨⟨h1,h2⟩,h3,h4⟩,h5⟩,h6⟩
   exact ⟨by omega,List.length_eq_zero_iff.1 (by omega),h3,by omega,by omega,h5,by omega⟩
  ·rintro ⟨h1,h2,h3,h4,h5,h6,h7⟩
   exact ⟨⟨⟨⟨by omega,by simp [h2]⟩,h3,by omega⟩,h6⟩,by omega⟩
open Classical in
theorem right_ok:∀(x:GNode) (m:Nat),4*x.hgt≤m→Ok (FR_i m x) (·=decide (Rgt x)):=by
 refine GNode.ind fun x ih m hm=>?_
 have hp:=hgt_pos x
 obtain ⟨m,rfl⟩:∃n,m=n+4:=⟨m - 4,by omega⟩
 have hc:FR_w (m+3) x.Kids=some (decide (∃k∈x.Kids,¬Rgt k)):=by
  simp only [FR_w,FR_z]
  refine contains_b (fun k=>¬Rgt k) x.Kids fun k y hy=>?_
  have:=(ih y hy m (by have:=kid_hgt hy;omega)).eq
  simp only [FR_r,this,Option.bind_some]
  by_cases c:Rgt y<;>simp [c]
 simp only [FR_i]
 refine Ok.jn (P:=fun b=>b=decide (okN x)) ?_ fun y hy=>?_
 ·refine Ok.ite (fun c=>?_) fun c=>?_
  ·have c:=of_decide_eq_true c
   rw [set_ok]
   refine Ok.ret (decide_eq_decide.2 ?_)
   unfold okN
   constructor
   ·exact fun h=>.inl ⟨c,h⟩
   ·rintro (h|⟨h,_⟩|⟨h,_⟩)
    ·exact h.2
    ·omega
    ·omega
  ·have c:=of_decide_eq_false c
   refine Ok.jn (P:=fun b=>b=decide (x.Op=2∨x.Op=3)) ?_ fun y hy=>?_
   ·refine Ok.ite (fun c2=>Ok.ret ?_) fun c2=>Ok.ret ?_
    ·have c2:=of_decide_eq_true c2
     simp [c2]
    ·have c2:=of_decide_eq_false c2
     simp [c2]
   ·subst hy
    refine Ok.ite (fun c2=>?_) fun c2=>Ok.ite (fun c3=>?_) fun c3=>Ok.ret ?_
    ·have c2:=of_decide_eq_true c2
     rw [several_ok]
     refine Ok.ret (decide_eq_decide.2 ?_)
     unfold okN
     constructor
     ·exact fun h=>.inr (.inl ⟨c2,h⟩)
     ·rintro (h|h|⟨h,_⟩)
      ·exact absurd h.1 c
      ·exact h.2
      ·omega
    ·have c2:=of_decide_eq_false c2
     have c3:=of_decide_eq_true c3
     rw [repeat_ok]
     refine Ok.ret (decide_eq_decide.2 ?_)
     unfold okN
     constructor
     ·exact fun h=>.inr (.inr ⟨c3,h⟩)
     ·rintro (h|h|h)
      ·exact absurd h.1 c
      ·exact absurd h.1 c2
      ·exact h.2
    ·have c2:=of_decide_eq_false c2
     have c3:=of_decide_eq_false c3
     rw [eq_comm,decide_eq_false_iff_not]
     rintro (h|h|h)
     ·exact c h.1
     ·exact c2 h.1
     ·exact c3 h.1
 ·subst hy
  refine Ok.jn (P:=fun b=>b=decide (Rgt x)) ?_ fun y hy=>Ok.ret hy
  refine Ok.ite (fun c=>?_) fun c=>Ok.ret ?_
  ·have c:=of_decide_eq_true c
   rw [hc]
   refine Ok.ret ?_
   rw [Bool.eq_iff_iff]
   simp only [Bool.not_eq_true',decide_eq_false_iff_not,decide_eq_true_eq]
   constructor
   ·exact fun h=>.mk x c fun k hk=>Classical.byContradiction fun hn=>h ⟨k,hk,hn⟩
   ·rintro h ⟨k,hk,hn⟩
    exact hn (h.kid hk)
  ·have c:=of_decide_eq_false c
   rw [eq_comm,decide_eq_false_iff_not]
   exact fun h=>c h.ok
open Classical in
theorem right_eq (x:GNode):F_i x=some (decide (Rgt x)):=lim_of ⟨4*x.hgt,fun m hm=>(right_ok x m hm).eq⟩
end Go.Ab
namespace Go.Ab
open Go.Proofs
def sumI:List Int→Int
 | []=>0
 | a::r=>a+sumI r
def maxI:List Int→Int
 | []=>0
 | a::r=>max a (maxI r)
def minI:Int→List Int→Int
 | m,[]=>m
 | m,a::r=>minI (min m a) r
mutual
def GNode.lon:GNode→Int
 | ⟨o,_,k,_,ma⟩=>min (if o=1 then 1 else if o=2 then sumI (GNode.lons k) else if o=3 then maxI (GNode.lons k) else ma*(GNode.lons k).headD 0) 1025
def GNode.lons:List GNode→List Int
 | []=>[]
 | a::r=>GNode.lon a::GNode.lons r
end
theorem lons_map:∀l:List GNode,GNode.lons l=l.map GNode.lon
 | []=>by simp [GNode.lons]
 | a::r=>by simp only [GNode.lons,List.map_cons,lons_map r]
theorem lon_eq (x:GNode):x.lon=min (if x.Op=1 then 1 else if x.Op=2 then sumI (x.Kids.map GNode.lon) else if x.Op=3 then maxI (x.Kids.map GNode.lon) else x.Max*(x.Kids.map GNode.lon).headD 0) 1025:=by
 cases x;simp only [GNode.lon,lons_map]
theorem sumI_append:∀a b:List Int,sumI (a++b)=sumI a+sumI b
 | [],b=>by simp [sumI]
 | x::r,b=>by simp only [List.cons_append,sumI,sumI_append r b];omega
theorem maxI_append:∀a b:List Int,(∀y∈a,0≤y)→(∀y∈b,0≤y)→maxI (a++b)=max (maxI a) (maxI b)
 | [],b,_,hb=>by
  have:∀l:List Int,(∀y∈l,0≤y)→0≤maxI l:=by
   intro l;induction l with
   | nil=>intro _;simp [maxI]
   | cons a r ih=>intro h;have:=ih fun y hy=>h y (by simp [hy]);simp only [maxI];omega
  have:=this b hb
  simp only [List.nil_append,maxI];omega
 | x::r,b,ha,hb=>by
  have:=maxI_append r b (fun y hy=>ha y (by simp [hy])) hb
  simp only [List.cons_append,maxI,this];omega
theorem sum_rng {f:GNode→Int} {c:Int}:∀{l:List GNode},(∀k∈l,0≤f k∧f k≤c)→0≤sumI (l.map f)∧sumI (l.map f)≤c*l.length∧∀k∈l,f k≤sumI (l.map f)
 | [],_=>by simp [sumI]
 | a::r,h=>by
  have h1:=h a (by simp)
  obtain ⟨h2,h3,h4⟩:=sum_rng (l:=r) fun k hk=>h k (by simp [hk])
  simp only [List.map_cons,sumI,List.length_cons,Int.natCast_add,Int.natCast_one,Int.mul_add,Int.mul_one]
  refine ⟨by omega,by omega,fun k hk=>?_⟩
  rcases List.mem_cons.1 hk with rfl|hk
  ·omega
  ·have:=h4 k hk;omega
theorem max_rng {f:GNode→Int} {c:Int} (hc:0≤c):∀{l:List GNode},(∀k∈l,0≤f k∧f k≤c)→0≤maxI (l.map f)∧maxI (l.map f)≤c∧∀k∈l,f k≤maxI (l.map f)
 | [],_=>by simp [maxI];exact hc
 | a::r,h=>by
  have h1:=h a (by simp)
  obtain ⟨h2,h3,h4⟩:=max_rng hc (l:=r) fun k hk=>h k (by simp [hk])
  simp only [List.map_cons,maxI]
  refine ⟨by omega,by omega,fun k hk=>?_⟩
  rcases List.mem_cons.1 hk with rfl|hk
  ·omega
  ·have:=h4 k hk;omega
theorem one_kid {x:GNode} (h:x.Kids.length=1):∃k,x.Kids=[k]:=by
 match hk:x.Kids,h with
 | [k],_=>exact ⟨k,rfl⟩
theorem Rgt.kinds {x:GNode} (h:Rgt x):(x.Op=1∧rngP x.Ranges∧x.Ranges≠[])∨(x.Op=2∧2≤x.Kids.length)∨(x.Op=3∧2≤x.Kids.length)∨(x.Op=4∧(∃k,x.Kids=[k])∧0≤x.Min∧1≤x.Max∧x.Min≤x.Max∧x.Max≤64):=by
 rcases h.ok with h|⟨h1|h1,h2⟩|h
 ·exact .inl ⟨h.1,h.2.1,h.2.2.1⟩
 ·exact .inr (.inl ⟨h1,h2.1⟩)
 ·exact .inr (.inr (.inl ⟨h1,h2.1⟩))
 ·exact .inr (.inr (.inr ⟨h.1,one_kid h.2.1,h.2.2.2.1,h.2.2.2.2.1,h.2.2.2.2.2.1,h.2.2.2.2.2.2.1⟩))
theorem lon_rng:∀x:GNode,Rgt x→1≤x.lon∧x.lon≤1025∧(x.lon≤1024→∀k∈x.Kids,k.lon≤x.lon):=by
 refine GNode.ind fun x ih hx=>?_
 have hk:∀k∈x.Kids,0≤k.lon∧k.lon≤1025:=fun k hk=>by have:=ih k hk (hx.kid hk);omega
 have hlo:∀k∈x.Kids,1≤k.lon:=fun k hk=>(ih k hk (hx.kid hk)).1
 rw [lon_eq]
 rcases hx.kinds with ⟨h,_⟩|⟨h,h2⟩|⟨h,h2⟩|⟨h,⟨k,h2⟩,h3,h4,h5,h6⟩
 ·rw [if_pos h]
  refine ⟨by omega,by omega,fun _ k hk=>?_⟩
  rcases hx.ok with h'|⟨h1|h1,h2⟩|h'
  ·rw [h'.2.2.2.1] at hk;cases hk
  ·omega
  ·omega
  ·omega
 ·rw [if_neg (by omega),if_pos h]
  obtain ⟨s1,s2,s3⟩:=sum_rng hk
  obtain ⟨k,hkm⟩:=List.exists_mem_of_length_pos (l:=x.Kids) (by omega)
  have:=s3 k hkm;have:=hlo k hkm
  exact ⟨by omega,by omega,fun _ k hk=>by have:=s3 k hk;omega⟩
 ·rw [if_neg (by omega),if_neg (by omega),if_pos h]
  obtain ⟨s1,s2,s3⟩:=max_rng (by omega) hk
  obtain ⟨k,hkm⟩:=List.exists_mem_of_length_pos (l:=x.Kids) (by omega)
  have:=s3 k hkm;have:=hlo k hkm
  exact ⟨by omega,by omega,fun _ k hk=>by have:=s3 k hk;omega⟩
 ·rw [if_neg (by omega),if_neg (by omega),if_neg (by omega),h2]
  have h7:=hlo k (by rw [h2];simp)
  have:1*k.lon≤x.Max*k.lon:=Int.mul_le_mul_of_nonneg_right h4 (by omega)
  simp only [List.map_cons,List.map_nil,List.headD_cons]
  exact ⟨by omega,by omega,fun _ k' hk'=>by simp at hk';subst hk';omega⟩
theorem longest_ok:∀(x:GNode) (m:Nat),x.hgt≤m→Rgt x→x.cnt≤1000→Ok (FR_8 m x) (·=x.lon):=by
 refine GNode.ind fun x ih m hm hx hc=>?_
 cases m with
 | zero=>have:=hgt_pos x;omega
 | succ m =>
  have hrec:∀k∈x.Kids,Ok (FR_8 m k) (·=k.lon):=fun k hk=>ih k hk m (by have:=kid_hgt hk;omega) (hx.kid hk) (by have:=kid_cnt hk;omega)
  have hkr:∀k∈x.Kids,0≤k.lon∧k.lon≤1025:=fun k hk=>by have:=lon_rng k (hx.kid hk);omega
  have hlen:=kids_cnt x
  simp only [FR_8]
  refine Ok.jn (P:=fun o=>min o 1025=x.lon) ?_ fun o ho=>Ok.ret ho
  rw [lon_eq]
  refine Ok.ite (fun c=>Ok.ret (by rw [if_pos (of_decide_eq_true c)])) fun c=>?_
  have c:=of_decide_eq_false c
  rw [if_neg c]
  refine Ok.ite (fun c2=>?_) fun c2=>?_
  ·rw [if_pos (of_decide_eq_true c2)]
   refine Ok.bind (Ok.foldI (all:=x.Kids) (Q:=fun o=>o=sumI (x.Kids.map GNode.lon)) (fun pre s=>s=sumI (pre.map GNode.lon)) x.Kids [] 0 0 rfl rfl rfl (fun pre k r s hw hs=>?_) fun s hs=>hs) fun o ho=>Ok.ret (by rw [ho])
   have hk:=mem_at hw
   have hl:=len_at hw
   have hpr:=sum_rng (f:=GNode.lon) (c:=1025) (l:=pre) fun k hk=>hkr k (by rw [hw];simp [hk])
   have:=hkr k hk
   refine Ok.bind (hrec k hk) fun y hy=>?_
   subst hy
   refine Ok.chk (in64_s (by omega) (by omega)) (Ok.ret ?_)
   rw [hs,List.map_append,sumI_append];simp [sumI]
  ·have c2:=of_decide_eq_false c2
   rw [if_neg c2]
   refine Ok.ite (fun c3=>?_) fun c3=>?_
   ·rw [if_pos (of_decide_eq_true c3)]
    refine Ok.bind (Ok.foldI (all:=x.Kids) (Q:=fun o=>o=maxI (x.Kids.map GNode.lon)) (fun pre s=>s=maxI (pre.map GNode.lon)) x.Kids [] 0 0 rfl rfl rfl (fun pre k r s hw hs=>?_) fun s hs=>hs) fun o ho=>Ok.ret (by rw [ho])
    have hk:=mem_at hw
    refine Ok.bind (hrec k hk) fun y hy=>?_
    subst hy
    refine Ok.ret ?_
    have:=hkr k hk
    rw [hs,List.map_append,maxI_append _ _ (fun y hy=>by obtain ⟨z,hz,rfl⟩:=List.mem_map.1 hy;exact (hkr z (by rw [hw];simp [hz])).1) (fun y hy=>by simp at hy;subst hy;omega)]
    simp only [List.map_cons,List.map_nil,maxI];omega
   ·have c3:=of_decide_eq_false c3
    rw [if_neg c3]
    rcases hx.kinds with ⟨h,_⟩|⟨h,h2⟩|⟨h,h2⟩|⟨h,⟨k,h2⟩,h3,h4,h5,h6⟩
    ·exact absurd h c
    ·exact absurd h c2
    ·exact absurd h c3
    ·have hk:k∈x.Kids:=by rw [h2];simp
     have:=hkr k hk
     have e:x.Kids.getD 0 default=k:=by rw [h2];rfl
     have hm1:0≤x.Max*k.lon:=Int.mul_nonneg (by omega) (by omega)
     have hm2:x.Max*k.lon≤64*1025:=Int.mul_le_mul h6 (by omega) (by omega) (by omega)
     rw [e]
     refine Ok.chk (inb_iff.2 ⟨by omega,by rw [h2];simp⟩) (Ok.bind (hrec k hk) fun y hy=>?_)
     subst hy
     refine Ok.chk (in64_s (by omega) (by omega)) (Ok.ret ?_)
     rw [h2];rfl
theorem longest_eq {x:GNode} (hx:Rgt x) (hc:x.cnt≤1000):F_8 x=some x.lon:=lim_of ⟨x.hgt,fun m hm=>(longest_ok x m hm hx hc).eq⟩
structure PV (x:GNode):Prop where
 cnt:x.cnt≤200
 hgt:x.hgt≤20
 rgt:Rgt x
 lon:x.lon≤1024
open Classical in
noncomputable def GNode.err (x:GNode):Int:=if 200<x.cnt then 3 else if 20<x.hgt then 9 else if ¬Rgt x then 1 else if 1024<x.lon then 3 else 0
open Classical in
theorem valid_eq (x:GNode):F_11 x=some x.err:=by
 refine Ok.eq ?_
 unfold F_11 GNode.err
 rw [nodes_eq]
 refine Ok.bind (P:=fun y=>y=min x.cnt 201) ⟨_,rfl,rfl⟩ fun y hy=>?_
 subst hy
 refine Ok.ite (fun c=>Ok.ret (by rw [if_pos (by have:=of_decide_eq_true c;omega)])) fun c=>?_
 have c:=of_decide_eq_false c
 rw [if_neg (by omega),depth_eq]
 refine Ok.bind (P:=fun y=>y=min (x.hgt:Int) 21) ⟨_,rfl,rfl⟩ fun y hy=>?_
 subst hy
 refine Ok.ite (fun c=>Ok.ret (by rw [if_pos (by have:=of_decide_eq_true c;omega)])) fun c=>?_
 have c:=of_decide_eq_false c
 rw [if_neg (by omega),right_eq]
 refine Ok.bind (P:=fun y=>y=decide (Rgt x)) ⟨_,rfl,rfl⟩ fun y hy=>?_
 subst hy
 refine Ok.ite (fun c=>Ok.ret (by rw [if_pos (by simpa using c)])) fun c=>?_
 have c:Rgt x:=by simpa using c
 rw [if_neg (fun h=>h c),longest_eq c (by omega)]
 refine Ok.bind (P:=fun y=>y=x.lon) ⟨_,rfl,rfl⟩ fun y hy=>?_
 subst hy
 refine Ok.ite (fun c=>Ok.ret (by rw [if_pos (of_decide_eq_true c)])) fun c=>Ok.ret (by rw [if_neg (of_decide_eq_false c)])
theorem err_zero {x:GNode}:x.err=0↔PV x:=by
 classical
 unfold GNode.err
 constructor
 ·intro h
  split at h
  ·omega
  ·split at h
   ·omega
   ·split at h
    ·omega
    ·split at h
     ·omega
     ·rename_i h1 h2 h3 h4
      exact ⟨by omega,by omega,Classical.byContradiction h3,by omega⟩
 ·rintro ⟨h1,h2,h3,h4⟩
  rw [if_neg (by omega),if_neg (by omega),if_neg (fun h=>h h3),if_neg (by omega)]
theorem PV.kid {x k:GNode} (h:PV x) (hk:k∈x.Kids):PV k :=
 ⟨by have:=kid_cnt hk;have:=h.cnt;omega,by have:=kid_hgt hk;have:=h.hgt;omega,h.rgt.kid hk,by have:=(lon_rng x h.rgt).2.2 h.lon k hk;have:=h.lon;omega⟩
mutual
def GNode.sho:GNode→Int
 | ⟨o,_,k,mi,_⟩=>if o=1 then 1 else if o=2 then sumI (GNode.shos k) else if o=3 then minI ((GNode.shos k).headD 0) (GNode.shos k) else mi*(GNode.shos k).headD 0
def GNode.shos:List GNode→List Int
 | []=>[]
 | a::r=>GNode.sho a::GNode.shos r
end
theorem shos_map:∀l:List GNode,GNode.shos l=l.map GNode.sho
 | []=>by simp [GNode.shos]
 | a::r=>by simp only [GNode.shos,List.map_cons,shos_map r]
theorem sho_eq (x:GNode):x.sho=if x.Op=1 then 1 else if x.Op=2 then sumI (x.Kids.map GNode.sho) else if x.Op=3 then minI ((x.Kids.map GNode.sho).headD 0) (x.Kids.map GNode.sho) else x.Min*(x.Kids.map GNode.sho).headD 0:=by
 cases x;simp only [GNode.sho,shos_map]
theorem minI_le:∀(l:List Int) (m:Int),minI m l≤m∧(∀y∈l,minI m l≤y)∧∀c,c≤m→(∀y∈l,c≤y)→c≤minI m l
 | [],m=>⟨Int.le_refl m,by simp,fun c h _=>h⟩
 | a::r,m=>by
  obtain ⟨h1,h2,h3⟩:=minI_le r (min m a)
  simp only [minI]
  refine ⟨by omega,fun y hy=>?_,fun c hc hy=>h3 c (by have:=hy a (by simp);omega) fun y h=>hy y (by simp [h])⟩
  rcases List.mem_cons.1 hy with rfl|hy
  ·omega
  ·exact h2 y hy
theorem minI_append:∀(a b:List Int) (m:Int),minI m (a++b)=minI (minI m a) b
 | [],b,m=>rfl
 | x::r,b,m=>by simp only [List.cons_append,minI,minI_append r b]
theorem sum_le {f g:GNode→Int}:∀{l:List GNode},(∀k∈l,f k≤g k)→sumI (l.map f)≤sumI (l.map g)
 | [],_=>by simp [sumI]
 | a::r,h=>by
  have h1:=h a (by simp)
  have h2:=sum_le (l:=r) fun k hk=>h k (by simp [hk])
  simp only [List.map_cons,sumI];omega
theorem sho_rng:∀x:GNode,PV x→0≤x.sho∧x.sho≤x.lon:=by
 refine GNode.ind fun x ih hx=>?_
 have hk:=fun k hk=>ih k hk (hx.kid hk)
 have hl:=hx.lon
 have hle:=lon_eq x
 rw [sho_eq]
 rcases hx.rgt.kinds with ⟨h,_⟩|⟨h,h2⟩|⟨h,h2⟩|⟨h,⟨k,h2⟩,h3,h4,h5,h6⟩
 ·rw [if_pos h];rw [if_pos h] at hle;omega
 ·rw [if_neg (by omega),if_pos h]
  rw [if_neg (by omega),if_pos h] at hle
  have:=sum_le (f:=GNode.sho) (g:=GNode.lon) (l:=x.Kids) fun k hk'=>(hk k hk').2
  have:0≤sumI (x.Kids.map GNode.sho):=by
   have:∀l:List GNode,(∀k∈l,0≤k.sho)→0≤sumI (l.map GNode.sho):=by
    intro l;induction l with
    | nil=>intro _;simp [sumI]
    | cons a r ih=>intro h;have:=ih fun y hy=>h y (by simp [hy]);have:=h a (by simp);simp only [List.map_cons,sumI];omega
   exact this _ fun k hk'=>(hk k hk').1
  omega
 ·rw [if_neg (by omega),if_neg (by omega),if_pos h]
  rw [if_neg (by omega),if_neg (by omega),if_pos h] at hle
  obtain ⟨q,hq⟩:∃q,x.Kids=q::x.Kids.tail:=by
   cases hkk:x.Kids with
   | nil=>rw [hkk] at h2;simp at h2
   | cons q r=>exact ⟨q,rfl⟩
  have hqm:q∈x.Kids:=by rw [hq];simp
  have e:(x.Kids.map GNode.sho).headD 0=q.sho:=by rw [hq];rfl
  rw [e]
  obtain ⟨m1,m2,m3⟩:=minI_le (x.Kids.map GNode.sho) q.sho
  have h8:=hk q hqm
  have h9:=(lon_rng x hx.rgt).2.2 hl q hqm
  refine ⟨m3 0 h8.1 fun y hy=>?_,by omega⟩
  obtain ⟨z,hz,rfl⟩:=List.mem_map.1 hy
  exact (hk z hz).1
 ·rw [if_neg (by omega),if_neg (by omega),if_neg (by omega),h2]
  rw [if_neg (by omega),if_neg (by omega),if_neg (by omega),h2] at hle
  have h7:=hk k (by rw [h2];simp)
  have h8:=lon_rng k (hx.rgt.kid (k:=k) (by rw [h2];simp))
  simp only [List.map_cons,List.map_nil,List.headD_cons] at hle ⊢
  have m1:0≤x.Min*k.sho:=Int.mul_nonneg h3 h7.1
  have m2:x.Min*k.sho≤x.Max*k.lon:=Int.mul_le_mul h5 h7.2 h7.1 (by omega)
  omega
end Go.Ab
namespace Go.Ab
open Go.Proofs
theorem Le.loopL {σ ρ:Type} {f g:σ→Option (Fl σ ρ)} {s:σ} (h:∀s,Le (f s) (g s)):Le (Go.Ab.loop f s) (Go.Ab.loop g s):=fun r hr=>by
 obtain ⟨n,hn⟩:=loop_iter.1 hr
 exact loop_iter.2 ⟨n,Le.iter h n s r hn⟩
theorem Le.up {α:Type} {f:Nat→Option α} (h:∀n,Le (f n) (f (n+1))) {n m:Nat} (hm:n≤m):Le (f n) (f m):=by
 induction hm with
 | refl=>exact Le.refl
 | step _ ih=>exact fun r hr=>h _ r (ih r hr)
theorem Ok.lim {α:Type} {f:Nat→Option α} {Q:α→Prop} (h:∀n,Le (f n) (f (n+1))) (n:Nat) (hn:Ok (f n) Q):Ok (Go.Ab.lim f) Q:=by
 obtain ⟨y,e,hy⟩:=hn
 exact ⟨y,lim_of ⟨n,fun m hm=>Le.up h hm y e⟩,hy⟩
theorem pattern_mono:∀n (t:GTape) (d:Int),Le (FR_7 n t d) (FR_7 (n+1) t d)
 | 0,t,d=>by simp only [FR_7];exact Le.non
 | n+1,t,d=>by
  have ih:=pattern_mono n
  rw [FR_7,FR_7]
  (repeat' (with_reducible first|exact Le.refl|assumption|(refine Le.bind ?_ fun _=>?_)|(refine Le.jn ?_ fun _=>?_)|(refine Le.grp fun _=>?_)|(refine Le.chk ?_)|(refine Le.cond ?_ ?_)|(refine Le.fl (fun _=>?_) fun _=>?_)|(refine Le.sum (fun _=>?_) fun _=>?_)|(refine Le.forL (fun _ _ _=>?_) _ _ _)|(refine Le.foldL (fun _ _ _=>?_) _ _ _)|(refine Le.loopL fun _=>?_)))
  all_goals exact ih _ _
def TO (t:GTape):Prop:=0≤t.at_∧(t.L.length:Int)≤9223372036854775807
theorem nx_ok {t:GTape} {n:Int} (h:TO t) (hn:0<n):Ok (F_16 t n) fun y=>0≤y.1∧y.1<n∧TO y.2:=by
 unfold F_16
 refine Ok.ite (fun c=>Ok.ret ⟨Int.le_refl 0,hn,h⟩) fun c=>?_
 have c':t.at_<t.L.length:=by simpa using c
 have h1:=h.1;have h2:=h.2
 refine Ok.chk (inb_iff.2 ⟨h.1,c'⟩) (Ok.chk (in64_iff.2 ⟨by omega,by omega⟩) (Ok.chk (divs_iff.2 ⟨Int.emod_nonneg _ (by decide),hn⟩) (Ok.ret ⟨Int.emod_nonneg _ (by omega),Int.emod_lt_of_pos _ hn,?_,h2⟩)))
 show 0≤t.at_+1
 omega
theorem btw_ok {t:GTape} {a b:Int} (h:TO t) (h1:-100000≤a) (h2:a≤b) (h3:b≤100000):Ok (F_1q t a b) fun y=>a≤y.1∧y.1≤b∧TO y.2:=by
 unfold F_1q
 refine Ok.chk (in64_s (by omega) (by omega)) (Ok.chk (in64_s (by omega) (by omega)) (Ok.bind (nx_ok h (by omega)) fun y hy=>Ok.chk (in64_s (by omega) (by omega)) (Ok.ret ⟨?_,?_,hy.2.2⟩)))
 ·show a≤a+y.1;omega
 ·show a+y.1≤b;omega
structure gd (d:Nat) (x:GNode):Prop where
 rgt:Rgt x
 hgt:x.hgt≤d+1
 cnt:2*x.cnt+1≤3^(d+1)
 lon:x.lon≤4^d
theorem pow3_pos (d:Nat):(1:Int)≤3^d:=by
 induction d with
 | zero=>decide
 | succ d ih=>rw [Int.pow_succ];omega
theorem pow4_pos (d:Nat):(1:Int)≤4^d:=by
 induction d with
 | zero=>decide
 | succ d ih=>rw [Int.pow_succ];omega
theorem gd.up {d:Nat} {x:GNode} (h:gd d x):gd (d+1) x:=by
 obtain ⟨h1,h2,h3,h4⟩:=h
 have:=pow3_pos (d+1);have:=pow4_pos d
 refine ⟨h1,by omega,?_,?_⟩
 ·rw [Int.pow_succ 3 (d+1)];omega
 ·rw [Int.pow_succ];omega
theorem gd.lift {x:GNode}:∀{d:Nat},gd 0 x→gd d x
 | 0,h=>h
 | d+1,h=>(gd.lift h).up
theorem gd_set {l:List GRange} (h1:rngP l) (h2:l≠[]):gd 0 (GNode.mk 1 l [] 0 0):=by
 refine ⟨.mk _ (.inl ⟨rfl,h1,h2,rfl,rfl,rfl⟩) (by simp),?_,?_,?_⟩
 ·rw [hgt_eq];simp [GNode.hgts]
 ·rw [cnt_eq];simp [GNode.cnts]
 ·rw [lon_eq];simp;omega
def sets8:List (List GRange):=[[(GRange.mk 97 98)],[(GRange.mk 48 57)],[(GRange.mk 97 97)],[(GRange.mk 98 98)],[(GRange.mk 48 57),(GRange.mk 97 102)],[(GRange.mk 107 107)],[(GRange.mk 45 45)],[(GRange.mk 0 9),(GRange.mk 250 255)]]
instance (l:List GRange) (i:Nat):Decidable (rng1 l i):=inferInstanceAs (Decidable (_∧_))
instance (l:List GRange):Decidable (rngP l):=inferInstanceAs (Decidable (∀i,i<l.length→rng1 l i))
theorem sets8_ok:∀i,i<8→rngP (sets8.getD i default)∧sets8.getD i default≠[]:=by
 intro i hi
 have:i=0∨i=1∨i=2∨i=3∨i=4∨i=5∨i=6∨i=7:=by omega
 rcases this with rfl|rfl|rfl|rfl|rfl|rfl|rfl|rfl<;>exact ⟨by decide,by simp [sets8]⟩
theorem mset_ok {t:GTape} (h:TO t):Ok (F_1j t) fun y=>gd 0 y.1∧y.1.Op=1∧TO y.2:=by
 unfold F_1j
 refine Ok.bind (nx_ok h (by simp)) fun y hy=>Ok.chk (inb_iff.2 ⟨hy.1,hy.2.1⟩) (Ok.ret ?_)
 have:=sets8_ok y.1.toNat (by have:=hy.2.1;simp at this;omega)
 exact ⟨gd_set this.1 this.2,rfl,hy.2.2⟩
theorem hgts_le {c:Nat}:∀{l:List GNode},(∀k∈l,k.hgt≤c)→GNode.hgts l≤c
 | [],_=>by simp [GNode.hgts]
 | a::r,h=>by
  have h1:=h a (by simp)
  have h2:=hgts_le (l:=r) fun k hk=>h k (by simp [hk])
  simp only [GNode.hgts];omega
theorem gd_node {e:Nat} {op:Int} {kids:List GNode} {mi ma:Int} (ho:okN (GNode.mk op [] kids mi ma)) (hk:∀k∈kids,gd e k) (hl:kids.length≤3) (hma:ma≤4):gd (e+1) (GNode.mk op [] kids mi ma):=by
 have hr:Rgt (GNode.mk op [] kids mi ma):=.mk _ ho fun k h=>(hk k h).rgt
 have p3:=pow3_pos (e+1);have p4:=pow4_pos e
 refine ⟨hr,?_,?_,?_⟩
 ·rw [hgt_eq]
  have:=hgts_le (c:=e+1) (l:=kids) fun k h=>(hk k h).hgt
  show GNode.hgts kids+1≤_;omega
 ·rw [cnt_eq]
  show 2*(GNode.cnts kids+1)+1≤_
  have h3:∀l:List GNode,(∀k∈l,gd e k)→l.length≤3→2*GNode.cnts l≤3*(3^(e+1) - 1):=by
   intro l h hl
   match l,h,hl with
   | [],_,_=>simp only [GNode.cnts];omega
   | [a],h,_=>have h1:=(h a (by simp)).cnt;simp only [GNode.cnts];omega
   | [a,b],h,_=>have h1:=(h a (by simp)).cnt;have h2:=(h b (by simp)).cnt;simp only [GNode.cnts];omega
   | [a,b,c],h,_=>have h1:=(h a (by simp)).cnt;have h2:=(h b (by simp)).cnt;have h3:=(h c (by simp)).cnt;simp only [GNode.cnts];omega
   | _::_::_::_::_,_,hl=>simp only [List.length_cons] at hl;omega
  have:=h3 kids hk hl
  rw [Int.pow_succ 3 (e+1)];omega
 ·rw [lon_eq,Int.pow_succ]
  have hkl:∀k∈kids,0≤k.lon∧k.lon≤4^e:=fun k h=>⟨by have:=lon_rng k (hk k h).rgt;omega,(hk k h).lon⟩
  have s1:=(sum_rng hkl).2.1
  have s2:(4:Int)^e*(kids.length:Int)≤4^e*3:=Int.mul_le_mul_of_nonneg_left (by omega) (by omega)
  have m1:=max_rng (by omega) hkl
  rcases hr.kinds with ⟨h,_⟩|⟨h,h2⟩|⟨h,h2⟩|⟨h,⟨k,h2⟩,h3,h4,h5,h6⟩<;>dsimp only at h<;>subst h
  ·simp only [if_true];omega
  ·rw [if_neg (show ¬(2:Int)=1 by decide),if_pos rfl]
   show min (sumI (kids.map GNode.lon)) 1025≤_;omega
  ·rw [if_neg (show ¬(3:Int)=1 by decide),if_neg (show ¬(3:Int)=2 by decide),if_pos rfl]
   show min (maxI (kids.map GNode.lon)) 1025≤_;omega
  ·rw [if_neg (show ¬(4:Int)=1 by decide),if_neg (show ¬(4:Int)=2 by decide),if_neg (show ¬(4:Int)=3 by decide)]
   dsimp only at h2 h3 h4 h5
   subst h2
   have h7:=hkl k (by simp)
   show min (ma*k.lon) 1025≤_
   have:ma*k.lon≤4*4^e:=Int.mul_le_mul hma h7.2 h7.1 (by omega)
   omega
theorem pattern_ok:∀(d m:Nat) (t:GTape),d<m→TO t→d≤100→Ok (FR_7 m t ((d:Int)+1)) fun y=>gd d y.1∧TO y.2:=by
 intro d
 induction d with
 | zero =>
  intro m t hm ht _
  obtain ⟨m,rfl⟩:∃n,m=n+1:=⟨m - 1,by omega⟩
  rw [FR_7]
  exact Ok.ite (fun _=>Ok.bind (mset_ok ht) fun y hy=>Ok.ret ⟨hy.1,hy.2.2⟩) fun c=>by have:=of_decide_eq_false c;simp at this
 | succ e ih =>
  intro m t hm ht he
  obtain ⟨m,rfl⟩:∃n,m=n+1:=⟨m - 1,by omega⟩
  have e1:((e+1:Nat):Int)+1 - 1=(e:Int)+1:=by omega
  have hrec:∀t,TO t→Ok (FR_7 m t ((e:Int)+1)) fun y=>gd e y.1∧TO y.2:=fun t h=>ih m t (by omega) h (by omega)
  rw [FR_7]
  simp only [e1]
  refine Ok.ite (fun c=>Ok.bind (mset_ok ht) fun y hy=>Ok.ret ⟨hy.1.lift,hy.2.2⟩) fun _=>?_
  refine Ok.jn (P:=fun o=>Fl.elim (fun j:Int×GTape=>(j.1=2∨j.1=3)∧TO j.2) (fun r:GNode×GTape=>gd (e+1) r.1∧TO r.2) o) ?_ fun o ho=>?_
  ·refine Ok.bind (nx_ok ht (by omega)) fun y hy=>Ok.jn (P:=fun _=>True) (Ok.ite (fun _=>Ok.ret trivial) fun _=>Ok.ret trivial) fun j _=>?_
   refine Ok.ite (fun _=>Ok.ret ⟨.inl rfl,hy.2.2⟩) fun _=>Ok.ite (fun _=>Ok.ret ⟨.inr rfl,hy.2.2⟩) fun _=>Ok.ite (fun _=>?_) fun _=>Ok.bind (mset_ok hy.2.2) fun z hz=>Ok.ret ⟨hz.1.lift,hz.2.2⟩
   refine Ok.bind (btw_ok hy.2.2 (by omega) (by omega) (by omega)) fun z hz=>Ok.chk (in64_s (by omega) (by omega)) (Ok.bind (nx_ok hz.2.2 (by omega)) fun w hw=>?_)
   refine Ok.jn (P:=fun j:Int×Int=>0≤j.1∧1≤j.2∧j.1≤j.2∧j.2≤4∧¬(j.1=1∧j.2=1)) (Ok.grp (Ok.ite (fun c=>Ok.ret ?_) fun c=>Ok.ret ?_)) fun j hj=>?_
   ·simp only [Bool.and_eq_true,decide_eq_true_eq] at c
    exact ⟨hw.1,by omega,by show w.1≤2;omega,by omega,by show ¬(w.1=1∧(2:Int)=1);omega⟩
   ·refine ⟨hw.1,hz.1,by have:=hw.2.1;show w.1≤z.1;omega,hz.2.1,fun ⟨h1,h2⟩=>?_⟩
    dsimp only at h1 h2
    simp [h1,h2] at c
   ·refine Ok.chk (in64_s (by omega) (by omega)) (Ok.bind (hrec _ hw.2.2) fun v hv=>Ok.ret ⟨?_,hv.2⟩)
    exact gd_node (.inr (.inr ⟨rfl,rfl,rfl,hj.1,hj.2.1,hj.2.2.1,by show j.2≤64;omega,hj.2.2.2.2⟩)) (by simp;exact hv.1) (by simp) hj.2.2.2.1
  ·cases o with
   | ex r=>exact Ok.ret ho
   | nx j =>
    obtain ⟨hj,ht2⟩:=ho
    dsimp only [Fl.elim]
    refine Ok.bind (btw_ok ht2 (by omega) (by omega) (by omega)) fun n hn=>?_
    refine Ok.bind (Ok.loop (Q:=fun r:Int×List GNode×GTape=>r.1=j.1∧(r.2.1.length:Int)=n.1∧(∀k∈r.2.1,gd e k∧k.Op≠j.1)∧TO r.2.2) (fun x:Int×Int×List GNode×GTape=>x.2.1=j.1∧0≤x.1∧x.1+x.2.2.1.length=n.1∧(∀k∈x.2.2.1,gd e k∧k.Op≠j.1)∧TO x.2.2.2) (fun x=>x.1.toNat) (fun x hx=>?_) _ ⟨rfl,by omega,by simp,by simp,hn.2.2⟩) fun r hr=>Ok.ret ⟨?_,hr.2.2.2⟩
    ·obtain ⟨a,op,kids,t3⟩:=x
     obtain ⟨h1,h2,h3,h4,h5⟩:=hx
     dsimp only at h1 h2 h3 h4 h5
     subst h1
     refine Ok.ite (fun c=>?_) fun c=>?_
     ·have c:0<a:=of_decide_eq_true c
      refine Ok.chk (in64_s (by omega) (by omega)) (Ok.bind (hrec _ h5) fun y hy=>?_)
      refine Ok.jn (P:=fun q:GNode×GTape=>(gd e q.1∧q.1.Op≠j.1)∧TO q.2) (Ok.ite (fun f=>?_) fun f=>?_) fun q hq=>?_
      ·refine Ok.bind (mset_ok hy.2) fun z hz=>Ok.ret ⟨⟨hz.1.lift,?_⟩,hz.2.2⟩
       rw [hz.2.1];omega
      ·exact Ok.ret ⟨⟨hy.1,of_decide_eq_false f⟩,hy.2⟩
      ·refine Ok.chk (room_s (by simp;omega)) (Ok.chk (in64_s (by omega) (by omega)) (Ok.ret ⟨⟨rfl,by dsimp only;omega,by dsimp only;simp;omega,fun k hk=>?_,hq.2⟩,by dsimp only;omega⟩))
       rcases List.mem_append.1 hk with hk|hk
       ·exact h4 k hk
       ·cases List.mem_singleton.1 hk;exact hq.1
     ·have c:¬0<a:=of_decide_eq_false c
      exact Ok.ret ⟨rfl,by dsimp only;omega,h4,h5⟩
    ·obtain ⟨r1,r2,r3,r4⟩:=hr
     rw [r1]
     exact gd_node (.inr (.inl ⟨hj,by show 2≤r.2.1.length;omega,rfl,rfl,rfl,fun k hk=>(r3 k hk).2⟩)) (fun k hk=>(r3 k hk).1) (by omega) (by omega)
theorem made_pattern {t:GTape} (h:TO t):Ok (F_7 t 5) fun y=>PV y.1∧TO y.2:=by
 refine Ok.mono (Ok.lim (f:=fun n=>FR_7 n t 5) (fun n=>pattern_mono n t 5) 5 (pattern_ok 4 5 t (by omega) h (by omega))) fun y hy=>⟨?_,hy.2⟩
 obtain ⟨⟨h1,h2,h3,h4⟩,_⟩:=hy
 have e3:(3:Int)^(4+1)=243:=by decide
 have e4:(4:Int)^4=256:=by decide
 exact ⟨by omega,by omega,h1,by omega⟩
end Go.Ab
namespace Go.Ab
open Go.Proofs Go.RowKit
inductive Fit:GNode→Prop
 | mk (x:GNode) (h1:rng .i64 x.Op) (h2:x.Ranges.length≤maxLen) (h3:x.Kids.length≤maxLen) (h4:rng .i64 x.Min) (h5:rng .i64 x.Max) (hk:∀k∈x.Kids,Fit k):Fit x
end Go.Ab
namespace Go.Ab
open Go.Proofs
theorem at_take {α:Type} [Inhabited α] {l:List α} {n:Nat} (h:n<l.length):∃k,k∈l∧l.getD n default=k∧l.take (n+1)=l.take n++[k] :=
 ⟨l[n],List.getElem_mem h,by rw [List.getD_eq_getElem?_getD,List.getElem?_eq_getElem h];rfl,List.take_succ_eq_append_getElem h⟩
theorem rcount_ok:∀(x:GNode) (m:Nat) (h:Int),x.hgt≤m→0≤h→h≤200→Ok (FR_n m x h) (·=min (h+x.cnt) 201):=by
 refine GNode.ind fun x ih m h hm h0 h1=>?_
 obtain ⟨m,rfl⟩:∃n,m=n+1:=⟨m - 1,by have:=hgt_pos x;omega⟩
 rw [FR_n]
 refine Ok.chk (in64_s (by omega) (by omega)) (Ok.bind (Ok.loop (Q:=fun r=>r=min (h+x.cnt) 201) (fun s:Int×Int=>∃n:Nat,s.2=(n:Int)∧n≤x.Kids.length∧(n:Int)≤201∧(n:Int)≤s.1∧s.1=min (h+1+GNode.cnts (x.Kids.take n)) 201) (fun s=>(x.Kids.length - s.2).toNat) (fun s hs=>?_) _ ⟨0,rfl,by omega,by omega,by dsimp only;omega,by simp [GNode.cnts];omega⟩) fun r hr=>Ok.ret hr)
 obtain ⟨s,i⟩:=s
 obtain ⟨n,e,h2,h3,h5,h4⟩:=hs
 dsimp only at e h4 h5
 subst e
 refine Ok.grp (Ok.ite (fun c=>?_) fun c=>?_)
 ·simp only [Bool.and_eq_true,decide_eq_true_eq] at c
  obtain ⟨k,hk,hg,ht⟩:=at_take (l:=x.Kids) (n:=n) (by omega)
  have hp:=cnt_pos k
  have hc:GNode.cnts (x.Kids.take (n+1))=GNode.cnts (x.Kids.take n)+k.cnt:=by rw [ht,cnts_append];simp [GNode.cnts]
  have hl:=cnts_len (x.Kids.take n)
  refine Ok.chk (inb_iff.2 ⟨by dsimp only;omega,by dsimp only;omega⟩) ?_
  dsimp only
  rw [Int.toNat_natCast,hg]
  refine Ok.bind (ih k hk m s (by have:=kid_hgt hk;omega) (by omega) (by omega)) fun y hy=>Ok.chk (in64_s (by omega) (by omega)) (Ok.ret ⟨⟨n+1,rfl,by omega,by omega,by dsimp only;omega,?_⟩,by dsimp only;omega⟩)
  dsimp only
  rw [hc,hy];omega
 ·have c':¬((n:Int)<x.Kids.length∧s≤200):=by simpa only [Bool.and_eq_true,decide_eq_true_eq,←Bool.not_eq_true] using c
  refine Ok.ret ?_
  show s=_
  rw [cnt_eq]
  by_cases e:n=x.Kids.length
  ·subst e;rw [List.take_length] at h4;omega
  ·have hs:GNode.cnts x.Kids=GNode.cnts (x.Kids.take n)+GNode.cnts (x.Kids.drop n):=by rw [←cnts_append,List.take_append_drop]
   have:=cnts_len (x.Kids.drop n)
   omega
theorem rnodes_eq (x:GNode):F_1v x=some (min x.cnt 201):=by
 have:F_n x 0=some (min x.cnt 201):=lim_of ⟨x.hgt,fun m hm=>by
  have:=(rcount_ok x m 0 hm (by omega) (by omega)).eq
  rwa [Int.zero_add] at this⟩
 unfold F_1v
 rw [this]
 show some _=some _
 congr 1;omega
theorem rdepth_ok:∀(x:GNode) (m:Nat),x.hgt≤m→x.cnt≤1000→Ok (FR_o m x) (·=(x.hgt:Int)):=by
 refine GNode.ind fun x ih m hm hc=>?_
 obtain ⟨m,rfl⟩:∃n,m=n+1:=⟨m - 1,by have:=hgt_pos x;omega⟩
 have hkl:=kids_cnt x
 have hh:=hgt_cnt x
 rw [FR_o]
 refine Ok.bind (Ok.loop (Q:=fun r=>r=(GNode.hgts x.Kids:Int)) (fun s:Int×Int=>∃n:Nat,s.2=(n:Int)∧n≤x.Kids.length∧s.1=(GNode.hgts (x.Kids.take n):Int)) (fun s=>(x.Kids.length - s.2).toNat) (fun s hs=>?_) _ ⟨0,rfl,by omega,by simp [GNode.hgts]⟩) fun r hr=>?_
 ·obtain ⟨s,i⟩:=s
  obtain ⟨n,e,h2,h4⟩:=hs
  dsimp only at e h4
  subst e
  refine Ok.ite (fun c=>?_) fun c=>?_
  ·have c:(n:Int)<x.Kids.length:=of_decide_eq_true c
   obtain ⟨k,hk,hg,ht⟩:=at_take (l:=x.Kids) (n:=n) (by omega)
   refine Ok.chk (inb_iff.2 ⟨by dsimp only;omega,c⟩) ?_
   dsimp only
   rw [Int.toNat_natCast,hg]
   refine Ok.bind (ih k hk m (by have:=kid_hgt hk;omega) (by have:=kid_cnt hk;omega)) fun y hy=>Ok.chk (in64_s (by omega) (by omega)) (Ok.ret ⟨⟨n+1,rfl,by omega,?_⟩,by dsimp only;omega⟩)
   dsimp only
   rw [ht,hgts_append,hy,h4];simp only [GNode.hgts];omega
  ·have c:¬(n:Int)<x.Kids.length:=of_decide_eq_false c
   have e:n=x.Kids.length:=by omega
   subst e
   rw [List.take_length] at h4
   exact Ok.ret h4
 ·have:=hgt_eq x
  exact Ok.chk (in64_s (by omega) (by omega)) (Ok.ret (by omega))
theorem rdepth_eq {x:GNode} (hc:x.cnt≤1000):F_o x=some (x.hgt:Int):=lim_of ⟨x.hgt,fun m hm=>(rdepth_ok x m hm hc).eq⟩
open Classical in
theorem rranges_ok (l:List GRange):F_1w l=some (decide (rngP l∧l≠[])):=by
 refine Ok.eq ?_
 unfold F_1w
 refine Ok.bind (Ok.loop (Q:=fun r=>(r=.inl ()∧rngP l)∨(r=.inr false∧¬rngP l)) (fun i:Int=>∃n:Nat,i=(n:Int)∧n≤l.length∧n≤129∧∀j,j<n→rng1 l j) (fun i=>(l.length - i).toNat) (fun i hi=>?_) _ ⟨0,rfl,by omega,by omega,fun j h=>by omega⟩) fun r hr=>?_
 ·obtain ⟨n,rfl,h2,h3,h4⟩:=hi
  unfold F_2e
  refine Ok.ite (fun c=>?_) fun c=>?_
  ·have c:(n:Int)<l.length:=of_decide_eq_true c
   have hb:n≤128:=by
    by_cases c:n≤128
    ·exact c
    ·have:=rng_lo (l:=l) 128 fun j hj=>h4 j (by omega)
     have:=(l.getD 128 default).Low.toNat_lt
     omega
   refine Ok.jn (P:=fun o=>Fl.elim (fun _=>rng1 l n) (fun r=>r=false∧¬rngP l) o) (Ok.chk (inb_iff.2 ⟨by omega,c⟩) (Ok.chk (inb_iff.2 ⟨by omega,c⟩) ?_)) fun o ho=>?_
   ·have e0:(n:Int).toNat=n:=Int.toNat_natCast n
    rw [e0]
    refine Ok.ite (fun d=>Ok.ret ⟨rfl,fun h=>?_⟩) fun d=>Ok.ite (fun d2=>?_) fun d2=>Ok.ret ⟨?_,fun h=>?_⟩
    ·have d:=of_decide_eq_true d
     have:=(h n (by omega)).1;omega
    ·have d:=of_decide_eq_false d
     have d2:=of_decide_eq_true d2
     have e1:((n:Int) - 1).toNat=n - 1:=by omega
     rw [e1]
     have hlt:=(l.getD (n - 1) default).High.toNat_lt
     refine Ok.chk (inb_iff.2 ⟨by omega,c⟩) (Ok.chk (in64_s (by omega) (by omega)) (Ok.chk (inb_iff.2 ⟨by omega,by omega⟩) (Ok.chk (in64_s (by omega) (by omega)) (Ok.ite (fun d3=>Ok.ret ⟨rfl,fun h=>?_⟩) fun d3=>Ok.ret ⟨?_,fun h=>?_⟩))))
     ·have d3:=of_decide_eq_true d3
      have:=(h n (by omega)).2 (by omega);omega
     ·omega
     ·have d3:=of_decide_eq_false d3;omega
    ·have d:=of_decide_eq_false d;omega
    ·have d2:=of_decide_eq_false d2;omega
   ·cases o with
    | ex r=>rw [Fl_ex];exact Ok.ret (.inr ⟨by rw [ho.1],ho.2⟩)
    | nx j =>
     rw [Fl_nx]
     refine Ok.chk (in64_s (by omega) (by omega)) (Ok.ret ⟨⟨n+1,rfl,by omega,by omega,fun j hj=>?_⟩,by omega⟩)
     by_cases e:j=n
     ·subst e;exact ho
     ·exact h4 j (by omega)
  ·have c:¬(n:Int)<l.length:=of_decide_eq_false c
   exact Ok.ret (.inl ⟨rfl,fun j hj=>h4 j (by omega)⟩)
 ·rcases hr with ⟨rfl,h⟩|⟨rfl,h⟩
  ·refine Ok.ret ?_
   rw [Bool.eq_iff_iff,decide_eq_true_eq,decide_eq_true_eq]
   exact ⟨fun h'=>⟨h,fun e=>by simp [e] at h'⟩,fun h'=>by have:=List.length_pos_iff.2 h'.2;omega⟩
  ·refine Ok.ret ?_
   show false=_
   rw [eq_comm,decide_eq_false_iff_not]
   exact fun h'=>h h'.1
open Classical in
theorem rkids_ok {x:GNode} (hc:x.cnt≤1000):F_1x x=some (decide (2≤x.Kids.length∧x.Ranges=[]∧x.Min=0∧x.Max=0∧∀k∈x.Kids,k.Op≠x.Op)):=by
 have hkl:=kids_cnt x
 refine Ok.eq ?_
 unfold F_1x
 refine Ok.bind (Ok.loop (Q:=fun r=>(r=.inl ()∧∀k∈x.Kids,k.Op≠x.Op)∨(r=.inr false∧∃k∈x.Kids,k.Op=x.Op)) (fun i:Int=>∃n:Nat,i=(n:Int)∧n≤x.Kids.length∧∀k∈x.Kids.take n,k.Op≠x.Op) (fun i=>(x.Kids.length - i).toNat) (fun i hi=>?_) _ ⟨0,rfl,by omega,by simp⟩) fun r hr=>?_
 ·obtain ⟨n,rfl,h2,h4⟩:=hi
  unfold F_2f
  refine Ok.ite (fun c=>?_) fun c=>?_
  ·have c:(n:Int)<x.Kids.length:=of_decide_eq_true c
   obtain ⟨k,hk,hg,ht⟩:=at_take (l:=x.Kids) (n:=n) (by omega)
   refine Ok.chk (inb_iff.2 ⟨by omega,c⟩) ?_
   rw [Int.toNat_natCast,hg]
   refine Ok.ite (fun d=>Ok.ret (.inr ⟨rfl,k,hk,of_decide_eq_true d⟩)) fun d=>Ok.chk (in64_s (by omega) (by omega)) (Ok.ret ⟨⟨n+1,rfl,by omega,fun q hq=>?_⟩,by omega⟩)
   rw [ht] at hq
   rcases List.mem_append.1 hq with hq|hq
   ·exact h4 q hq
   ·cases List.mem_singleton.1 hq;exact of_decide_eq_false d
  ·have c:¬(n:Int)<x.Kids.length:=of_decide_eq_false c
   have e:n=x.Kids.length:=by omega
   subst e
   rw [List.take_length] at h4
   exact Ok.ret (.inl ⟨rfl,h4⟩)
 ·rcases hr with ⟨rfl,h⟩|⟨rfl,k,hk,h⟩
  ·refine Ok.grp (Ok.grp (Ok.grp (Ok.ret ?_)))
   rw [Bool.eq_iff_iff]
   simp only [Bool.and_eq_true,decide_eq_true_eq]
   constructor
   ·rintro ⟨⟨⟨h1,h2⟩,h3⟩,h4⟩
    exact ⟨by omega,List.length_eq_zero_iff.1 (by omega),h3,h4,h⟩
   ·rintro ⟨h1,h2,h3,h4,_⟩
    exact ⟨⟨⟨by omega,by simp [h2]⟩,h3⟩,h4⟩
  ·refine Ok.ret ?_
   show false=_
   rw [eq_comm,decide_eq_false_iff_not]
   rintro ⟨_,_,_,_,h'⟩
   exact h' k hk h
open Classical in
theorem rright_ok:∀(x:GNode) (m:Nat),x.hgt≤m→x.cnt≤1000→Ok (FR_p m x) (·=decide (Rgt x)):=by
 refine GNode.ind fun x ih m hm hc=>?_
 obtain ⟨m,rfl⟩:∃n,m=n+1:=⟨m - 1,by have:=hgt_pos x;omega⟩
 have hkl:=kids_cnt x
 rw [FR_p]
 refine Ok.jn (P:=fun b=>b=decide (okN x)) ?_ fun b hb=>?_
 ·refine Ok.ite (fun c=>?_) fun c=>?_
  ·have c:=of_decide_eq_true c
   rw [rranges_ok]
   refine Ok.grp (Ok.grp (Ok.grp (Ok.ret ?_)))
   rw [Bool.eq_iff_iff]
   simp only [Bool.and_eq_true,decide_eq_true_eq]
   unfold okN
   constructor
   ·rintro ⟨⟨⟨h1,h2⟩,h3⟩,h4⟩
    exact .inl ⟨c,h1.1,h1.2,List.length_eq_zero_iff.1 (by omega),h3,h4⟩
   ·rintro (h|⟨h,_⟩|⟨h,_⟩)
    ·exact ⟨⟨⟨⟨h.2.1,h.2.2.1⟩,by simp [h.2.2.2.1]⟩,h.2.2.2.2.1⟩,h.2.2.2.2.2⟩
    ·omega
    ·omega
  ·have c:=of_decide_eq_false c
   refine Ok.jn (P:=fun y=>y=decide (x.Op=2∨x.Op=3)) ?_ fun y hy=>?_
   ·refine Ok.ite (fun c2=>Ok.ret ?_) fun c2=>Ok.ret ?_
    ·have c2:=of_decide_eq_true c2
     simp [c2]
    ·have c2:=of_decide_eq_false c2
     simp [c2]
   ·subst hy
    refine Ok.ite (fun c2=>?_) fun c2=>Ok.ite (fun c3=>?_) fun c3=>Ok.ret ?_
    ·have c2:=of_decide_eq_true c2
     rw [rkids_ok hc]
     refine Ok.ret (decide_eq_decide.2 ?_)
     unfold okN
     constructor
     ·exact fun h=>.inr (.inl ⟨c2,h⟩)
     ·rintro (h|h|⟨h,_⟩)
      ·exact absurd h.1 c
      ·exact h.2
      ·omega
    ·have c2:=of_decide_eq_false c2
     have c3:=of_decide_eq_true c3
     refine Ok.grp (Ok.grp (Ok.grp (Ok.grp (Ok.grp (Ok.grp (Ok.ret ?_))))))
     rw [Bool.eq_iff_iff]
     simp only [Bool.and_eq_true,decide_eq_true_eq,Bool.or_eq_true,Bool.not_eq_true',decide_eq_false_iff_not]
     unfold okN
     constructor
     ·rintro ⟨⟨⟨⟨⟨⟨h1,h2⟩,h3⟩,h4⟩,h5⟩,h6⟩,h7⟩
      exact .inr (.inr ⟨c3,by omega,List.length_eq_zero_iff.1 (by omega),h3,h4,h5,h6,by omega⟩)
     ·rintro (h|h|⟨_,h1,h2,h3,h4,h5,h6,h7⟩)
      ·exact absurd h.1 c
      ·exact absurd h.1 c2
      ·exact ⟨⟨⟨⟨⟨⟨by omega,by simp [h2]⟩,h3⟩,h4⟩,h5⟩,h6⟩,by omega⟩
    ·have c2:=of_decide_eq_false c2
     have c3:=of_decide_eq_false c3
     rw [eq_comm,decide_eq_false_iff_not]
     rintro (h|h|h)
     ·exact c h.1
     ·exact c2 h.1
     ·exact c3 h.1
 ·subst hb
  refine Ok.bind (Ok.loop (Q:=fun r=>r=decide (Rgt x)) (fun s:Bool×Int=>∃n:Nat,s.2=(n:Int)∧n≤x.Kids.length∧s.1=decide (okN x∧∀k∈x.Kids.take n,Rgt k)) (fun s=>(x.Kids.length - s.2).toNat) (fun s hs=>?_) _ ⟨0,rfl,by omega,by simp⟩) fun r hr=>Ok.ret hr
  obtain ⟨s,i⟩:=s
  obtain ⟨n,e,h2,h4⟩:=hs
  dsimp only at e h4
  subst e
  refine Ok.grp (Ok.ite (fun c=>?_) fun c=>?_)
  ·simp only [Bool.and_eq_true,decide_eq_true_eq] at c
   have hs:okN x∧∀k∈x.Kids.take n,Rgt k:=by rw [c.2] at h4;exact of_decide_eq_true h4.symm
   obtain ⟨k,hk,hg,ht⟩:=at_take (l:=x.Kids) (n:=n) (by omega)
   refine Ok.chk (inb_iff.2 ⟨by dsimp only;omega,by dsimp only;omega⟩) ?_
   dsimp only
   rw [Int.toNat_natCast,hg]
   refine Ok.bind (ih k hk m (by have:=kid_hgt hk;omega) (by have:=kid_cnt hk;omega)) fun y hy=>Ok.chk (in64_s (by omega) (by omega)) (Ok.ret ⟨⟨n+1,rfl,by omega,?_⟩,by dsimp only;omega⟩)
   dsimp only
   rw [hy,ht,decide_eq_decide]
   constructor
   ·intro h
    refine ⟨hs.1,fun q hq=>?_⟩
    rcases List.mem_append.1 hq with hq|hq
    ·exact hs.2 q hq
    ·cases List.mem_singleton.1 hq;exact h
   ·exact fun h=>h.2 k (by simp)
  ·refine Ok.ret ?_
   show s=_
   by_cases e:s=true
   ·have:¬(n:Int)<x.Kids.length:=fun h=>by simp [h,e] at c
    have en:n=x.Kids.length:=by omega
    subst en
    rw [List.take_length] at h4
    rw [h4,decide_eq_decide]
    exact ⟨fun h=>.mk x h.1 h.2,fun h=>⟨h.ok,fun k hk=>h.kid hk⟩⟩
   ·have e:s=false:=by simpa using e
    rw [e] at h4 ⊢
    have h4:=of_decide_eq_false h4.symm
    rw [eq_comm,decide_eq_false_iff_not]
    exact fun h=>h4 ⟨h.ok,fun k hk=>h.kid (List.mem_of_mem_take hk)⟩
open Classical in
theorem rright_eq {x:GNode} (hc:x.cnt≤1000):F_p x=some (decide (Rgt x)):=lim_of ⟨x.hgt,fun m hm=>(rright_ok x m hm hc).eq⟩
end Go.Ab
namespace Go.Ab
open Go.Proofs
def szF (x:GNode) (most:Bool):Int:=bif most then x.lon else x.sho
theorem rsize_ok (most:Bool):∀(x:GNode) (m:Nat),x.hgt≤m→Rgt x→x.cnt≤1000→(most=false→PV x)→Ok (FR_e m x most) (·=szF x most):=by
 refine GNode.ind fun x ih m hm hx hc hv=>?_
 obtain ⟨m,rfl⟩:∃n,m=n+1:=⟨m - 1,by have:=hgt_pos x;omega⟩
 have hkl:=kids_cnt x
 have hrec:∀k∈x.Kids,Ok (FR_e m k most) (·=szF k most):=fun k hk=>ih k hk m (by have:=kid_hgt hk;omega) (hx.kid hk) (by have:=kid_cnt hk;omega) fun h=>(hv h).kid hk
 have hkr:∀k∈x.Kids,0≤szF k most∧szF k most≤1025:=fun k hk=>by
  have:=lon_rng k (hx.kid hk)
  cases most with
  | true=>show 0≤k.lon∧k.lon≤1025;omega
  | false=>have:=sho_rng k ((hv rfl).kid hk);show 0≤k.sho∧k.sho≤1025;omega
 have hval:szF x most=min (if x.Op=1 then 1 else if x.Op=2 then sumI (x.Kids.map (szF · most)) else if x.Op=3 then (bif most then maxI (x.Kids.map (szF · most)) else minI ((x.Kids.map (szF · most)).headD 0) (x.Kids.map (szF · most))) else (bif most then x.Max else x.Min)*(x.Kids.map (szF · most)).headD 0) 1025:=by
  cases most with
  | true=>exact lon_eq x
  | false =>
   have h1:=sho_eq x
   have h2:=sho_rng x (hv rfl)
   have h3:=(hv rfl).lon
   show x.sho=min (if x.Op=1 then 1 else if x.Op=2 then sumI (x.Kids.map GNode.sho) else if x.Op=3 then minI ((x.Kids.map GNode.sho).headD 0) (x.Kids.map GNode.sho) else x.Min*(x.Kids.map GNode.sho).headD 0) 1025
   rw [←h1];omega
 rw [FR_e]
 refine Ok.jn (P:=fun o=>Fl.elim (fun j:Int=>szF x most=min j 1025) (fun r=>szF x most=r) o) ?_ fun o ho=>?_
 ·refine Ok.ite (fun c=>Ok.ret ?_) fun c=>?_
  ·rw [if_pos (of_decide_eq_true c)] at hval
   show szF x most=1
   rw [hval];omega
  ·have c:=of_decide_eq_false c
   rw [if_neg c] at hval
   refine Ok.ite (fun c2=>?_) fun c2=>?_
   ·rw [if_pos (of_decide_eq_true c2)] at hval
    refine Ok.bind (Ok.loop (Q:=fun r=>r=sumI (x.Kids.map (szF · most))) (fun s:Int×Int=>∃n:Nat,s.2=(n:Int)∧n≤x.Kids.length∧s.1=sumI ((x.Kids.take n).map (szF · most))) (fun s=>(x.Kids.length - s.2).toNat) (fun s hs=>?_) _ ⟨0,rfl,by omega,by simp [sumI]⟩) fun r hr=>Ok.ret (by show szF x most=min r 1025;rw [hr];exact hval)
    obtain ⟨s,i⟩:=s
    obtain ⟨n,e,h2,h4⟩:=hs
    dsimp only at e h4
    subst e
    refine Ok.ite (fun d=>?_) fun d=>?_
    ·have d:(n:Int)<x.Kids.length:=of_decide_eq_true d
     obtain ⟨k,hk,hg,ht⟩:=at_take (l:=x.Kids) (n:=n) (by omega)
     have hs:=(sum_rng (f:=(szF · most)) (c:=1025) (l:=x.Kids.take n) fun q hq=>hkr q (List.mem_of_mem_take hq))
     have hl:(x.Kids.take n).length≤1000:=by rw [List.length_take];omega
     have:=hkr k hk
     refine Ok.chk (inb_iff.2 ⟨by dsimp only;omega,d⟩) ?_
     dsimp only
     rw [Int.toNat_natCast,hg]
     refine Ok.bind (hrec k hk) fun y hy=>Ok.chk (in64_s (by omega) (by omega)) (Ok.chk (in64_s (by omega) (by omega)) (Ok.ret ⟨⟨n+1,rfl,by omega,?_⟩,by dsimp only;omega⟩))
     dsimp only
     rw [ht,List.map_append,sumI_append,hy,h4];simp [sumI]
    ·have d:¬(n:Int)<x.Kids.length:=of_decide_eq_false d
     have e:n=x.Kids.length:=by omega
     subst e
     rw [List.take_length] at h4
     exact Ok.ret h4
   ·have c2:=of_decide_eq_false c2
    rw [if_neg c2] at hval
    refine Ok.ite (fun c3=>?_) fun c3=>?_
    ·have c3:=of_decide_eq_true c3
     rw [if_pos c3] at hval
     have h2:2≤x.Kids.length:=by rcases hx.kinds with h|h|h|h<;>first|exact h.2|omega
     obtain ⟨q,r,hq⟩:∃q r,x.Kids=q::r:=by
      cases hkk:x.Kids with
      | nil=>rw [hkk] at h2;simp at h2
      | cons q r=>exact ⟨q,r,rfl⟩
     have hqm:q∈x.Kids:=by rw [hq];simp
     have e2:x.Kids.getD 0 default=q:=by rw [hq];rfl
     rw [e2]
     have hq0:=hkr q hqm
     refine Ok.chk (inb_iff.2 ⟨by omega,by omega⟩) (Ok.bind (hrec q hqm) fun y hy=>?_)
     refine Ok.bind (Ok.loop (Q:=fun t=>t=(bif most then maxI (x.Kids.map (szF · most)) else minI (szF q most) (x.Kids.map (szF · most)))) (fun s:Int×Int=>∃n:Nat,1≤n∧s.2=(n:Int)∧n≤x.Kids.length∧s.1=(bif most then maxI ((x.Kids.take n).map (szF · most)) else minI (szF q most) ((x.Kids.take n).map (szF · most)))) (fun s=>(x.Kids.length - s.2).toNat) (fun s hs=>?_) _ ⟨1,by omega,rfl,by omega,?_⟩) fun r' hr=>Ok.ret ?_
     ·obtain ⟨s,i⟩:=s
      obtain ⟨n,h1,e,h2,h4⟩:=hs
      dsimp only at e h4
      subst e
      refine Ok.ite (fun d=>?_) fun d=>?_
      ·have d:(n:Int)<x.Kids.length:=of_decide_eq_true d
       obtain ⟨k,hk,hg,ht⟩:=at_take (l:=x.Kids) (n:=n) (by omega)
       have hk0:=hkr k hk
       refine Ok.jn (P:=fun z=>z=(bif most then max s (szF k most) else min s (szF k most))) ?_ fun z hz=>?_
       ·refine Ok.chk (inb_iff.2 ⟨by dsimp only;omega,d⟩) ?_
        dsimp only
        rw [Int.toNat_natCast,hg]
        refine Ok.bind (hrec k hk) fun v hv'=>Ok.grp (Ok.grp (Ok.ite (fun f=>Ok.ret ?_) fun f=>Ok.ret ?_))
        ·cases most with
         | true=>simp at f;simp;omega
         | false=>simp at f;simp;omega
        ·cases most with
         | true=>simp at f;simp;omega
         | false=>simp at f;simp;omega
       ·refine Ok.chk (in64_s (by dsimp only;omega) (by dsimp only;omega)) (Ok.ret ⟨⟨n+1,by omega,rfl,by omega,?_⟩,by dsimp only;omega⟩)
        dsimp only
        rw [hz,ht,h4,List.map_append]
        cases most with
        | true =>
         simp only [cond_true]
         rw [maxI_append _ _ (fun y hy=>by obtain ⟨z,hz,rfl⟩:=List.mem_map.1 hy;exact (hkr z (List.mem_of_mem_take hz)).1) (fun y hy=>by simp at hy;subst hy;exact hk0.1)]
         simp only [List.map_cons,List.map_nil,maxI];omega
        | false =>
         simp only [cond_false]
         rw [minI_append];rfl
      ·have d:¬(n:Int)<x.Kids.length:=of_decide_eq_false d
       have e:n=x.Kids.length:=by omega
       subst e
       rw [List.take_length] at h4
       exact Ok.ret h4
     ·dsimp only
      rw [hy,hq]
      cases most with
      | true=>simp [maxI];omega
      | false=>simp [minI]
     ·show szF x most=min r' 1025
      rw [hr,hval]
      have:(x.Kids.map (szF · most)).headD 0=szF q most:=by rw [hq];rfl
      rw [this]
    ·have c3:=of_decide_eq_false c3
     rw [if_neg c3] at hval
     obtain ⟨k,h2,h3,h4,h5,h6⟩:∃k,x.Kids=[k]∧0≤x.Min∧1≤x.Max∧x.Min≤x.Max∧x.Max≤64:=by
      rcases hx.kinds with h|h|h|⟨_,⟨k,h⟩,h2⟩
      ·omega
      ·omega
      ·omega
      ·exact ⟨k,h,h2⟩
     have hk:k∈x.Kids:=by rw [h2];simp
     have hg:x.Kids.getD 0 default=k:=by rw [h2];rfl
     have hk0:=hkr k hk
     refine Ok.jn (P:=fun j=>j=(bif most then x.Max else x.Min)) (by cases most<;>exact Ok.ret rfl) fun j hj=>?_
     have hj2:0≤j∧j≤64:=by rw [hj];cases most<;>simp<;>omega
     have m1:0≤j*szF k most:=Int.mul_nonneg hj2.1 hk0.1
     have m2:j*szF k most≤64*1025:=Int.mul_le_mul hj2.2 hk0.2 hk0.1 (by omega)
     rw [hg]
     refine Ok.chk (inb_iff.2 ⟨by omega,by rw [h2];simp⟩) (Ok.bind (hrec k hk) fun y hy=>?_)
     subst hy
     refine Ok.chk (in64_s (by omega) (by omega)) (Ok.ret ?_)
     show szF x most=min (j*szF k most) 1025
     rw [hval,h2,hj];rfl
 ·cases o with
  | nx j=>rw [Fl_nx];exact Ok.ret ho.symm
  | ex r=>rw [Fl_ex];exact Ok.ret ho.symm
theorem rsize_lon {x:GNode} (hx:Rgt x) (hc:x.cnt≤1000):F_e x true=some x.lon:=lim_of ⟨x.hgt,fun m hm=>(rsize_ok true x m hm hx hc fun h=>by cases h).eq⟩
open Classical in
theorem rvalid_eq (x:GNode):F_1y x=some x.err:=by
 refine Ok.eq ?_
 unfold F_1y GNode.err
 rw [rnodes_eq]
 refine Ok.bind (P:=fun y=>y=min x.cnt 201) ⟨_,rfl,rfl⟩ fun y hy=>?_
 subst hy
 refine Ok.ite (fun c=>Ok.ret (by rw [if_pos (by have:=of_decide_eq_true c;omega)])) fun c=>?_
 have c:=of_decide_eq_false c
 rw [if_neg (by omega),rdepth_eq (by omega)]
 refine Ok.bind (P:=fun y=>y=(x.hgt:Int)) ⟨_,rfl,rfl⟩ fun y hy=>?_
 subst hy
 refine Ok.ite (fun c=>Ok.ret (by rw [if_pos (by have:=of_decide_eq_true c;omega)])) fun c2=>?_
 have c2:=of_decide_eq_false c2
 rw [if_neg (by omega),rright_eq (by omega)]
 refine Ok.bind (P:=fun y=>y=decide (Rgt x)) ⟨_,rfl,rfl⟩ fun y hy=>?_
 subst hy
 refine Ok.ite (fun c=>Ok.ret (by rw [if_pos (by simpa using c)])) fun c3=>?_
 have c3:Rgt x:=by simpa using c3
 rw [if_neg (fun h=>h c3),rsize_lon c3 (by omega)]
 refine Ok.bind (P:=fun y=>y=x.lon) ⟨_,rfl,rfl⟩ fun y hy=>?_
 subst hy
 refine Ok.ite (fun c=>Ok.ret (by rw [if_pos (of_decide_eq_true c)])) fun c=>Ok.ret (by rw [if_neg (of_decide_eq_false c)])
end Go.Ab
namespace Go.Ab
open Go.Proofs
inductive Lens:GNode→Prop
 | mk (x:GNode) (h2:x.Ranges.length≤maxLen) (h3:x.Kids.length≤maxLen) (hk:∀k∈x.Kids,Lens k):Lens x
theorem Lens.rl {x:GNode} (h:Lens x):(x.Ranges.length:Int)≤9223372036854775807:=by
 cases h with|mk _ h _ _=>unfold maxLen at h;omega
theorem Lens.kl {x:GNode} (h:Lens x):(x.Kids.length:Int)≤9223372036854775807:=by
 cases h with|mk _ _ h _=>unfold maxLen at h;omega
theorem Lens.kid {x k:GNode} (h:Lens x) (hk:k∈x.Kids):Lens k:=by cases h with|mk _ _ _ h=>exact h k hk
theorem small_max {n:Nat} (h:n≤1000000):n≤maxLen:=by unfold maxLen;omega
theorem Fit.lens {x:GNode} (h:Fit x):Lens x:=by
 induction h with
 | mk x h1 h2 h3 h4 h5 hk ih=>exact .mk x h2 h3 ih
theorem Rgt.lens {x:GNode} (h:Rgt x) (hc:x.cnt≤1000):Lens x:=by
 induction h with
 | mk x ho hk ih =>
  have hkl:=kids_cnt x
  refine .mk x (small_max ?_) (small_max (by omega)) fun k hm=>ih k hm (by have:=kid_cnt hm;omega)
  rcases ho with h|⟨_,h⟩|h
  ·have:=rng_len h.2.1;omega
  ·rw [h.2.1];simp
  ·rw [h.2.2.1];simp
theorem node_ext {a b:GNode}:a=b↔a.Op=b.Op∧a.Min=b.Min∧a.Max=b.Max∧a.Ranges=b.Ranges∧a.Kids=b.Kids:=by
 cases a;cases b;simp only [GNode.mk.injEq]
 exact ⟨fun ⟨h1,h2,h3,h4,h5⟩=>⟨h1,h4,h5,h2,h3⟩,fun ⟨h1,h4,h5,h2,h3⟩=>⟨h1,h2,h3,h4,h5⟩⟩
theorem rng_ext {a b:GRange}:a=b↔(a.Low.toNat:Int)=b.Low.toNat∧(a.High.toNat:Int)=b.High.toNat:=by
 cases a;cases b;simp only [GRange.mk.injEq]
 exact ⟨fun ⟨h1,h2⟩=>⟨by rw [h1],by rw [h2]⟩,fun ⟨h1,h2⟩=>⟨toNat_inj' h1,toNat_inj' h2⟩⟩
theorem take_eq {α:Type} [Inhabited α] {l r:List α} {n:Nat} (h1:n<l.length) (h2:n<r.length) (h:l.take n=r.take n) (e:l.getD n default=r.getD n default):l.take (n+1)=r.take (n+1):=by
 obtain ⟨k,_,g1,t1⟩:=at_take h1
 obtain ⟨k',_,g2,t2⟩:=at_take h2
 rw [t1,t2,h,←g1,←g2,e]
end Go.Ab
namespace Go.Ab
open Go.Proofs
open Classical in
theorem rsame_ok:∀(a:GNode) (m:Nat) (b:GNode),a.hgt≤m→Lens a→Ok (FR_q m a b) (·=decide (a=b)):=by
 refine GNode.ind fun a ih m b hm ha=>?_
 obtain ⟨m,rfl⟩:∃n,m=n+1:=⟨m - 1,by have:=hgt_pos a;omega⟩
 have h1:=ha.rl
 have h2:=ha.kl
 rw [FR_q]
 refine Ok.grp (Ok.grp (Ok.grp (Ok.grp (Ok.ite (fun c=>Ok.ret ?_) fun c=>?_))))
 ·rw [eq_comm,decide_eq_false_iff_not]
  rintro rfl
  simp at c
 ·simp only [Bool.or_eq_false_iff,Bool.not_eq_false',decide_eq_true_eq] at c
  obtain ⟨⟨⟨⟨c1,c2⟩,c3⟩,c4⟩,c5⟩:=c
  refine Ok.bind (Ok.loop (Q:=fun r=>(r=.inl ()∧a.Ranges=b.Ranges)∨(r=.inr false∧a.Ranges≠b.Ranges)) (fun i:Int=>∃n:Nat,i=(n:Int)∧n≤a.Ranges.length∧a.Ranges.take n=b.Ranges.take n) (fun i=>(a.Ranges.length - i).toNat) (fun i hi=>?_) _ ⟨0,rfl,by omega,by simp⟩) fun r hr=>?_
  ·obtain ⟨n,rfl,g2,g3⟩:=hi
   have e0:(n:Int).toNat=n:=Int.toNat_natCast n
   rw [e0]
   refine Ok.ite (fun d=>?_) fun d=>?_
   ·have d:(n:Int)<a.Ranges.length:=of_decide_eq_true d
    refine Ok.chk (inb_iff.2 ⟨by omega,d⟩) (Ok.chk (inb_iff.2 ⟨by omega,by omega⟩) (Ok.ite (fun f=>Ok.ret (.inr ⟨rfl,fun e=>?_⟩)) fun f=>Ok.chk (in64_iff.2 ⟨by omega,by omega⟩) (Ok.ret ⟨⟨n+1,rfl,by omega,?_⟩,by omega⟩)))
    ·rw [e] at f;simp at f
    ·simp only [Bool.not_eq_false',Bool.and_eq_true,decide_eq_true_eq] at f
     exact take_eq (by omega) (by omega) g3 (rng_ext.2 f)
   ·have d:¬(n:Int)<a.Ranges.length:=of_decide_eq_false d
    have e:n=a.Ranges.length:=by omega
    subst e
    rw [List.take_length,show a.Ranges.length=b.Ranges.length by omega,List.take_length] at g3
    exact Ok.ret (.inl ⟨rfl,g3⟩)
  ·rcases hr with ⟨rfl,h⟩|⟨rfl,h⟩
   ·rw [Sum_inl]
    refine Ok.bind (Ok.loop (Q:=fun r=>(r=.inl ()∧a.Kids=b.Kids)∨(r=.inr false∧a.Kids≠b.Kids)) (fun i:Int=>∃n:Nat,i=(n:Int)∧n≤a.Kids.length∧a.Kids.take n=b.Kids.take n) (fun i=>(a.Kids.length - i).toNat) (fun i hi=>?_) _ ⟨0,rfl,by omega,by simp⟩) fun r hr=>?_
    ·obtain ⟨n,rfl,g2,g3⟩:=hi
     have e0:(n:Int).toNat=n:=Int.toNat_natCast n
     rw [e0]
     refine Ok.ite (fun d=>?_) fun d=>?_
     ·have d:(n:Int)<a.Kids.length:=of_decide_eq_true d
      obtain ⟨k,hk,hg,_⟩:=at_take (l:=a.Kids) (n:=n) (by omega)
      rw [hg]
      refine Ok.chk (inb_iff.2 ⟨by omega,d⟩) (Ok.chk (inb_iff.2 ⟨by omega,by omega⟩) (Ok.bind (ih k hk m _ (by have:=kid_hgt hk;omega) (ha.kid hk)) fun y hy=>?_))
      subst hy
      refine Ok.ite (fun f=>Ok.ret (.inr ⟨rfl,fun e=>?_⟩)) fun f=>Ok.chk (in64_iff.2 ⟨by omega,by omega⟩) (Ok.ret ⟨⟨n+1,rfl,by omega,?_⟩,by omega⟩)
      ·have f:¬k=b.Kids.getD n default:=by simpa using f
       exact f (by rw [←e,hg])
      ·have f:k=b.Kids.getD n default:=by simpa using f
       exact take_eq (by omega) (by omega) g3 (by rw [hg,f])
     ·have d:¬(n:Int)<a.Kids.length:=of_decide_eq_false d
      have e:n=a.Kids.length:=by omega
      subst e
      rw [List.take_length,show a.Kids.length=b.Kids.length by omega,List.take_length] at g3
      exact Ok.ret (.inl ⟨rfl,g3⟩)
    ·rcases hr with ⟨rfl,h'⟩|⟨rfl,h'⟩
     ·rw [Sum_inl]
      refine Ok.ret ?_
      rw [eq_comm,decide_eq_true_eq]
      exact node_ext.2 ⟨c1,c2,c3,h,h'⟩
     ·rw [Sum_inr]
      refine Ok.ret ?_
      rw [eq_comm,decide_eq_false_iff_not]
      exact fun e=>h' (by rw [e])
   ·rw [Sum_inr]
    refine Ok.ret ?_
    rw [eq_comm,decide_eq_false_iff_not]
    exact fun e=>h (by rw [e])
open Classical in
theorem rsame_eq (a b:GNode) (ha:Lens a):F_q a b=some (decide (a=b)):=lim_of ⟨a.hgt,fun m hm=>(rsame_ok a m b hm ha).eq⟩
theorem acall_fact' {P:Program} {f:FuncId} {ys:List V} {H:Heap} {Q:V→Heap→Prop} (hc:callable P f=true) (h:(∀y∈ys,y.fact)→ACall P f ys H Q):ACall P f ys H Q :=
 ⟨hc,fun g w vals hH hs hr=>(h fun y hy=>by
  obtain ⟨i,hi⟩:=List.getElem?_of_mem hy
  exact (hr i y hi).fact).2 g w vals hH hs hr⟩
end Go.Ab
namespace Go.Ab
open Go.Proofs
noncomputable def sglC (c_:UInt8):Option Str :=
 grp ((decide (33≤(c_.toNat:Int))&&decide ((c_.toNat:Int)≤126))) fun b2=>(iter (F_2g c_) 12 (b2,0)).bind fun r24=>bif r24 then some [c_] else chk (inb ((c_.toNat:Int) / 2^4) [48,49,50,51,52,53,54,55,56,57,97,98,99,100,101,102].length) (some [92,120,(([48,49,50,51,52,53,54,55,56,57,97,98,99,100,101,102]:Str).getD (((c_.toNat:Int) / 2^4)).toNat 0),(([48,49,50,51,52,53,54,55,56,57,97,98,99,100,101,102]:Str).getD (((c_.toNat:Int) % 2^4)).toNat 0)])
theorem sglC_le (c:UInt8):Le (sglC c) (F_13 c):=by
 unfold sglC F_13
 exact Le.grp fun _=>Le.bind (Le.loop fun _=>Le.refl) fun _=>Le.refl
noncomputable def chkC (c:UInt8):Bool:=match sglC c with
 | some s=>decide (F_c c=some s)&&decide (s.length≤4)
 | none=>false
theorem chk_all:(List.range 256).all (fun i=>chkC (UInt8.ofNat i))=true:=by kernel_rfl
theorem sgn_ex (c:UInt8):∃s,F_c c=some s∧F_13 c=some s∧s.length≤4:=by
 have h:=List.all_eq_true.1 chk_all c.toNat (List.mem_range.2 c.toNat_lt)
 rw [show UInt8.ofNat c.toNat=c from by simp] at h
 unfold chkC at h
 cases hs:sglC c with
 | none=>rw [hs] at h;cases h
 | some s =>
  rw [hs] at h
  simp only [Bool.and_eq_true,decide_eq_true_eq] at h
  exact ⟨s,h.1,sglC_le c s hs,h.2⟩
def sgn (c:UInt8):Str:=(F_c c).getD []
theorem sgn_ok (c:UInt8):F_c c=some (sgn c)∧F_13 c=some (sgn c)∧(sgn c).length≤4:=by
 obtain ⟨s,h1,h2,h3⟩:=sgn_ex c
 have:sgn c=s:=by unfold sgn;rw [h1];rfl
 rw [this];exact ⟨h1,h2,h3⟩
theorem number_mono:∀n (k:Int),Le (FR_9 n k) (FR_9 (n+1) k)
 | 0,k=>by simp only [FR_9];exact Le.non
 | n+1,k=>by
  have ih:=number_mono n
  rw [FR_9,FR_9]
  (repeat' (with_reducible first|exact Le.refl|assumption|(refine Le.bind ?_ fun _=>?_)|(refine Le.chk ?_)|(refine Le.cond ?_ ?_)))
  all_goals exact ih _
theorem num_all:(List.range 65).all (fun i=>decide (FR_9 3 (i:Nat)=some (Lib.itoa (i:Nat)))&&decide ((Lib.itoa (i:Nat)).length≤2))=true:=by kernel_rfl
theorem num_ok {n:Int} (h0:0≤n) (h1:n≤64):F_9 n=some (Lib.itoa n)∧itoaI n=some (Lib.itoa n)∧(Lib.itoa n).length≤2:=by
 obtain ⟨k,rfl⟩:=Int.eq_ofNat_of_zero_le h0
 have h:=List.all_eq_true.1 num_all k (List.mem_range.2 (by omega))
 simp only [Bool.and_eq_true,decide_eq_true_eq] at h
 refine ⟨lim_of ⟨3,fun m hm=>Le.up (f:=fun n=>FR_9 n k) (fun n=>number_mono n _) hm _ h.1⟩,?_,h.2⟩
 exact Ok.eq (Ok.chk (in64_s (by omega) (by omega)) (Ok.ret rfl))
end Go.Ab
namespace Go.Ab
open Go.Proofs
theorem bws_s {b s:Str} (h:b.length+s.length≤100000000):bws b s=some (b++s):=Ok.eq (Ok.chk (room_iff.2 (by omega)) (Ok.ret rfl))
theorem bwb_s {b:Str} {c:UInt8} (h:b.length+1≤100000000):bwb b c=some (b++[c]):=Ok.eq (Ok.chk (room_iff.2 (by omega)) (Ok.ret rfl))
theorem strl_s {n:Nat} (h:n≤100000000):strl n=true:=strl_iff.2 (by omega)
def rT (r:GRange):Str:=sgn r.Low++(if (r.High.toNat:Int)=r.Low.toNat then [] else [45]++sgn r.High)
def setB:List GRange→Str
 | []=>[]
 | r::q=>rT r++setB q
theorem setB_append:∀a b:List GRange,setB (a++b)=setB a++setB b
 | [],b=>rfl
 | x::r,b=>by simp only [List.cons_append,setB,setB_append r b,List.append_assoc]
def setT (l:List GRange):Str:=if l.length=1∧((l.getD 0 default).Low.toNat:Int)=(l.getD 0 default).High.toNat then sgn (l.getD 0 default).Low else [91]++setB l++[93]
theorem rT_len (r:GRange):(rT r).length≤9:=by
 have h1:=(sgn_ok r.Low).2.2
 have h2:=(sgn_ok r.High).2.2
 unfold rT
 split<;>simp<;>omega
theorem setB_len:∀l:List GRange,(setB l).length≤9*l.length
 | []=>by simp [setB]
 | r::q=>by have:=rT_len r;have:=setB_len q;simp only [setB,List.length_append,List.length_cons];omega
theorem setT_len {l:List GRange} (h:l.length≤128):(setT l).length≤1300:=by
 have h1:=setB_len l
 have h2:=(sgn_ok (l.getD 0 default).Low).2.2
 unfold setT
 split
 ·omega
 ·simp;omega
theorem writeSet_ok {out:Str} {l:List GRange} (hl:l.length≤128) (ho:out.length≤90000000):Ok (F_1o out l) (·=out++setT l):=by
 unfold F_1o
 refine Ok.jn (P:=fun o=>Fl.elim (fun _=>¬(l.length=1∧((l.getD 0 default).Low.toNat:Int)=(l.getD 0 default).High.toNat)) (fun r=>r=out++setT l) o) (Ok.ite (fun c=>?_) fun c=>Ok.ret ?_) fun o ho2=>?_
 ·have c:=of_decide_eq_true c
  have hi:inb 0 l.length=true:=inb_iff.2 ⟨by omega,by omega⟩
  refine Ok.chk hi (Ok.chk hi (Ok.ite (fun d=>Ok.chk hi ?_) fun d=>Ok.ret fun h=>(of_decide_eq_false d) h.2))
  have d:=of_decide_eq_true d
  rw [(sgn_ok _).1]
  have h2:=(sgn_ok (l.getD 0 default).Low).2.2
  simp only [Option.bind_some]
  rw [bws_s (by omega)]
  refine Ok.ret ?_
  show _=out++setT l
  unfold setT
  rw [if_pos ⟨by omega,d⟩]
 ·exact fun h=>(of_decide_eq_false c) (by omega)
 ·cases o with
  | ex r=>rw [Fl_ex];exact Ok.ret ho2
  | nx j =>
   rw [Fl_nx,bwb_s (by omega)]
   simp only [Option.bind_some]
   refine Ok.bind (Ok.foldI (all:=l) (Q:=fun o=>o=out++[91]++setB l) (fun pre s=>s=out++[91]++setB pre) l [] 0 _ rfl rfl (by simp [setB]) (fun pre r q s hw hs=>?_) fun s hs=>hs) fun o ho3=>?_
   ·have hlt:=len_at hw
    have hb:=setB_len pre
    have h1:=(sgn_ok r.Low).2.2
    have h2:=(sgn_ok r.High).2.2
    have hsl:s.length≤90010000:=by rw [hs];simp;omega
    unfold F_28
    rw [(sgn_ok r.Low).1]
    simp only [Option.bind_some]
    rw [bws_s (by omega)]
    simp only [Option.bind_some]
    have hB:setB (pre++[r])=setB pre++rT r:=by rw [setB_append];simp [setB]
    rw [hB,hs]
    refine Ok.ite (fun d=>?_) fun d=>Ok.ret ?_
    ·rw [(sgn_ok r.High).1]
     simp only [Option.bind_some]
     refine Ok.chk (strl_s (by simp;omega)) ?_
     rw [←hs,bws_s (by simp;omega)]
     refine Ok.ret ?_
     have d:¬(r.High.toNat:Int)=r.Low.toNat:=by simpa using d
     rw [hs];unfold rT;rw [if_neg d];simp
    ·have d:(r.High.toNat:Int)=r.Low.toNat:=by simpa using d
     unfold rT;rw [if_pos d];simp
   ·subst ho3
    have:=setB_len l
    rw [bwb_s (by simp;omega)]
    refine Ok.ret ?_
    show _=out++setT l
    unfold setT
    rw [if_neg ho2];simp
def par (s:Str):Str:=[40]++s++[41]
def seqT:List (Int×Str)→Str
 | []=>[]
 | (o,s)::r=>(if o=3 then par s else s)++seqT r
def barT:List (Int×Str)→Str
 | []=>[]
 | (_,s)::r=>[124]++s++barT r
def altT:List (Int×Str)→Str
 | []=>[]
 | (_,s)::r=>s++barT r
theorem seqT_append:∀a b,seqT (a++b)=seqT a++seqT b
 | [],b=>rfl
 | (o,s)::r,b=>by simp only [List.cons_append,seqT,seqT_append r b,List.append_assoc]
theorem barT_append:∀a b,barT (a++b)=barT a++barT b
 | [],b=>rfl
 | (o,s)::r,b=>by simp only [List.cons_append,barT,barT_append r b,List.append_assoc]
theorem altT_snoc:∀(a:List (Int×Str)) (o:Int) (s:Str),altT (a++[(o,s)])=altT a++(if a.length=0 then [] else [124])++s
 | [],o,s=>by simp [altT,barT]
 | (o',s')::r,o,s=>by simp only [List.cons_append,altT,barT_append];simp [barT]
def repT (p:Int×Str) (mi ma:Int):Str:=(if p.1=1 then p.2 else par p.2)++([123]++Lib.itoa mi)++(if ma=mi then [] else [44]++Lib.itoa ma)++[125]
mutual
def GNode.txt:GNode→Str
 | ⟨o,rs,k,mi,ma⟩=>if o=1 then setT rs else if o=2 then seqT (GNode.txts k) else if o=3 then altT (GNode.txts k) else repT ((GNode.txts k).headD (0,[])) mi ma
def GNode.txts:List GNode→List (Int×Str)
 | []=>[]
 | a::r=>(a.Op,GNode.txt a)::GNode.txts r
end
theorem txts_map:∀l:List GNode,GNode.txts l=l.map fun k=>(k.Op,k.txt)
 | []=>by simp [GNode.txts]
 | a::r=>by simp only [GNode.txts,List.map_cons,txts_map r]
theorem txt_eq (x:GNode):x.txt=if x.Op=1 then setT x.Ranges else if x.Op=2 then seqT (x.Kids.map fun k=>(k.Op,k.txt)) else if x.Op=3 then altT (x.Kids.map fun k=>(k.Op,k.txt)) else repT ((x.Kids.map fun k=>(k.Op,k.txt)).headD (0,[])) x.Min x.Max:=by
 cases x;simp only [GNode.txt,txts_map]
theorem lens_len {f:List (Int×Str)→Str} (hf0:f []=[]) (hf:∀a o s,(f (a++[(o,s)])).length≤(f a).length+s.length+2):∀{l:List GNode},(∀k∈l,(k.txt.length:Int)≤1400*k.cnt - 2)→((f (l.map fun k=>(k.Op,k.txt))).length:Int)≤1400*GNode.cnts l:=by
 intro l
 have:∀(n:Nat) (l:List GNode),l.length=n→(∀k∈l,(k.txt.length:Int)≤1400*k.cnt - 2)→((f (l.map fun k=>(k.Op,k.txt))).length:Int)≤1400*GNode.cnts l:=by
  intro n
  induction n with
  | zero=>intro l hl _;obtain rfl:=List.length_eq_zero_iff.1 hl;simp [hf0,GNode.cnts]
  | succ n ih =>
   intro l hl h
   obtain ⟨a,x,rfl⟩:∃a x,l=a++[x]:=⟨l.dropLast,l.getLast (fun e=>by simp [e] at hl),(List.dropLast_concat_getLast _).symm⟩
   have h1:=ih a (by simpa using hl) fun k hk=>h k (by simp [hk])
   have h2:=h x (by simp)
   have h3:=hf (a.map fun k=>(k.Op,k.txt)) x.Op x.txt
   rw [List.map_append,cnts_append]
   simp only [List.map_cons,List.map_nil,GNode.cnts]
   omega
 exact this l.length l rfl
theorem seqT_st (a:List (Int×Str)) (o:Int) (s:Str):(seqT (a++[(o,s)])).length≤(seqT a).length+s.length+2:=by
 rw [seqT_append];simp only [seqT,par];split<;>simp<;>omega
theorem altT_st (a:List (Int×Str)) (o:Int) (s:Str):(altT (a++[(o,s)])).length≤(altT a).length+s.length+2:=by
 rw [altT_snoc];split<;>simp<;>omega
theorem txt_len:∀x:GNode,Rgt x→(x.txt.length:Int)≤1400*x.cnt - 2:=by
 refine GNode.ind fun x ih hx=>?_
 have hk:∀k∈x.Kids,(k.txt.length:Int)≤1400*k.cnt - 2:=fun k hk=>ih k hk (hx.kid hk)
 rw [txt_eq,cnt_eq]
 rcases hx.kinds with ⟨h,h1,_⟩|⟨h,h2⟩|⟨h,h2⟩|⟨h,⟨k,h2⟩,h3,h4,h5,h6⟩
 ·rw [if_pos h]
  have:=setT_len (rng_len h1)
  have:=cnts_len x.Kids
  omega
 ·rw [if_neg (by omega),if_pos h]
  have:=lens_len (f:=seqT) rfl seqT_st hk
  omega
 ·rw [if_neg (by omega),if_neg (by omega),if_pos h]
  have:=lens_len (f:=altT) rfl altT_st hk
  omega
 ·rw [if_neg (by omega),if_neg (by omega),if_neg (by omega),h2]
  have h7:=hk k (by rw [h2];simp)
  have n1:=(num_ok (n:=x.Min) h3 (by omega)).2.2
  have n2:=(num_ok (n:=x.Max) (by omega) h6).2.2
  simp only [List.map_cons,List.map_nil,List.headD_cons,repT,par,GNode.cnts]
  split<;>split<;>simp<;>omega
end Go.Ab
namespace Go.Ab
open Go.Proofs
theorem kidsT_le {x:GNode} {pre r:List GNode} {k:GNode} {f:List (Int×Str)→Str} (hf0:f []=[]) (hf:∀a o s,(f (a++[(o,s)])).length≤(f a).length+s.length+2) (hx:Rgt x) (hw:x.Kids=pre++k::r) :
  ((f (pre.map fun k=>(k.Op,k.txt))).length:Int)+1400*k.cnt≤1400*GNode.cnts x.Kids:=by
 have h1:=lens_len (f:=f) hf0 hf (l:=pre) fun q hq=>txt_len q (hx.kid (by rw [hw];simp [hq]))
 have h2:GNode.cnts x.Kids=GNode.cnts pre+(k.cnt+GNode.cnts r):=by rw [hw,cnts_append];simp only [GNode.cnts]
 have h3:=cnts_len r
 omega
theorem pwrite_ok:∀(x:GNode) (m:Nat) (out:Str),2*x.hgt≤m→Rgt x→(out.length:Int)+1400*x.cnt≤80000000→Ok (FR_l m out x) (·=out++x.txt):=by
 refine GNode.ind fun x ih m out hm hx hl=>?_
 have hp:=hgt_pos x
 obtain ⟨m,rfl⟩:∃n,m=n+2:=⟨m - 2,by omega⟩
 have hcq:=cnt_eq x
 have hcp:=cnt_pos x
 have hkid:∀k∈x.Kids,∀(out:Str) (p:Bool),(out.length:Int)+1400*k.cnt+1≤80000000→Ok (FR_10 (m+1) out k p) (·=out++(if p=true then par k.txt else k.txt)):=by
  intro k hk out p hlen
  have hkt:=txt_len k (hx.kid hk)
  have hkc:=cnt_pos k
  rw [FR_10]
  refine Ok.jn (P:=fun j=>j=out++(if p=true then [40] else [])) ?_ fun j hj=>?_
  ·cases p with
   | true=>show Ok ((bwb out 40).bind fun y3=>some y3) _;rw [bwb_s (by omega)];exact Ok.ret rfl
   | false=>exact Ok.ret (by simp)
  ·subst hj
   have hq1:(if p=true then [40] else ([]:Str)).length≤1:=by split<;>simp
   refine Ok.bind (ih k hk m _ (by have:=kid_hgt hk;omega) (hx.kid hk) (by simp only [List.length_append];omega)) fun y hy=>?_
   subst hy
   cases p with
   | true=>show Ok ((bwb _ 41).bind fun y6=>some y6) _;rw [bwb_s (by simp;omega)];exact Ok.ret (by simp [par])
   | false=>exact Ok.ret (by simp)
 have htx:=txt_eq x
 rw [FR_l]
 refine Ok.ite (fun c=>?_) fun c=>Ok.ite (fun c2=>?_) fun c2=>Ok.ite (fun c3=>?_) fun c3=>?_
 ·have c:=of_decide_eq_true c
  rw [if_pos c] at htx
  have hr:rngP x.Ranges:=by rcases hx.kinds with h|h|h|h<;>first|exact h.2.1|omega
  rw [htx]
  exact Ok.bind (writeSet_ok (rng_len hr) (by omega)) fun y hy=>Ok.ret hy
 ·have c:=of_decide_eq_false c
  have c2:=of_decide_eq_true c2
  rw [if_neg c,if_pos c2] at htx
  rw [htx]
  refine Ok.bind (Ok.foldI (all:=x.Kids) (Q:=fun o=>o=out++seqT (x.Kids.map fun k=>(k.Op,k.txt))) (fun pre s=>s=out++seqT (pre.map fun k=>(k.Op,k.txt))) x.Kids [] 0 _ rfl rfl (by simp [seqT]) (fun pre k r s hw hs=>?_) fun s hs=>hs) fun o ho=>Ok.ret ho
  have hb:=kidsT_le (f:=seqT) rfl seqT_st hx hw
  refine Ok.bind (hkid k (mem_at hw) s _ (by rw [hs,List.length_append];omega)) fun y hy=>Ok.ret ?_
  rw [hy,hs,List.map_append,seqT_append]
  by_cases e:k.Op=3<;>simp [seqT,e]
 ·have c:=of_decide_eq_false c
  have c2:=of_decide_eq_false c2
  have c3:=of_decide_eq_true c3
  rw [if_neg c,if_neg c2,if_pos c3] at htx
  rw [htx]
  refine Ok.bind (Ok.foldI (all:=x.Kids) (Q:=fun o=>o=out++altT (x.Kids.map fun k=>(k.Op,k.txt))) (fun pre s=>s=out++altT (pre.map fun k=>(k.Op,k.txt))) x.Kids [] 0 _ rfl rfl (by simp [altT]) (fun pre k r s hw hs=>?_) fun s hs=>hs) fun o ho=>Ok.ret ho
  have hk:=mem_at hw
  have hb:=kidsT_le (f:=altT) rfl altT_st hx hw
  have hkc:=cnt_pos k
  have hsl:(s.length:Int)=out.length+(altT (pre.map fun k=>(k.Op,k.txt))).length:=by rw [hs,List.length_append];omega
  refine Ok.jn (P:=fun j=>j=s++(if pre.length=0 then [] else [124])) (Ok.ite (fun d=>?_) fun d=>Ok.ret ?_) fun j hj=>?_
  ·have d:=of_decide_eq_true d
   rw [bwb_s (by omega)]
   refine Ok.ret ?_
   rw [if_neg (by omega)]
  ·have d:=of_decide_eq_false d
   rw [if_pos (by omega),List.append_nil]
  ·have hj1:(if pre.length=0 then ([]:Str) else [124]).length≤1:=by split<;>simp
   refine Ok.bind (ih k hk (m+1) j (by have:=kid_hgt hk;omega) (hx.kid hk) (by rw [hj,List.length_append];omega)) fun y hy=>Ok.ret ?_
   rw [hy,hj,hs,List.map_append]
   simp only [List.map_cons,List.map_nil]
   rw [altT_snoc]
   simp
 ·have c:=of_decide_eq_false c
  have c2:=of_decide_eq_false c2
  have c3:=of_decide_eq_false c3
  rw [if_neg c,if_neg c2,if_neg c3] at htx
  obtain ⟨k,h2,h3,h4,h5,h6⟩:∃k,x.Kids=[k]∧0≤x.Min∧1≤x.Max∧x.Min≤x.Max∧x.Max≤64:=by
   rcases hx.kinds with h|h|h|⟨_,⟨k,h⟩,h2⟩
   ·omega
   ·omega
   ·omega
   ·exact ⟨k,h,h2⟩
  have hk:k∈x.Kids:=by rw [h2];simp
  have hg:x.Kids.getD 0 default=k:=by rw [h2];rfl
  have hkc:=kid_cnt hk
  have hkt:=txt_len k (hx.kid hk)
  have n1:=num_ok (n:=x.Min) h3 (by omega)
  have n2:=num_ok (n:=x.Max) (by omega) h6
  have hi:inb 0 x.Kids.length=true:=inb_iff.2 ⟨by omega,by rw [h2];simp⟩
  rw [hg]
  refine Ok.chk hi (Ok.chk hi (Ok.bind (hkid k hk out _ (by omega)) fun y hy=>?_))
  have hyl:y.length≤80001000:=by
   rw [hy,List.length_append]
   have:(if (!decide (k.Op=1))=true then par k.txt else k.txt).length≤k.txt.length+2:=by split<;>simp [par]
   omega
  rw [n1.2.1]
  simp only [Option.bind_some]
  refine Ok.chk (strl_s (by simp;omega)) ?_
  rw [bws_s (by simp;omega)]
  simp only [Option.bind_some]
  refine Ok.jn (P:=fun j=>j=y++([123]++Lib.itoa x.Min)++(if x.Max=x.Min then [] else [44]++Lib.itoa x.Max)) (Ok.ite (fun d=>?_) fun d=>Ok.ret ?_) fun j hj=>?_
  ·have d:¬x.Max=x.Min:=by simpa using d
   rw [n2.2.1]
   simp only [Option.bind_some]
   refine Ok.chk (strl_s (by simp;omega)) ?_
   rw [bws_s (by simp;omega)]
   refine Ok.ret ?_
   rw [if_neg d]
  ·have d:x.Max=x.Min:=by simpa using d
   rw [if_pos d,List.append_nil]
  ·have:(if x.Max=x.Min then ([]:Str) else [44]++Lib.itoa x.Max).length≤3:=by split<;>simp<;>omega
   rw [bwb_s (by rw [hj];rw [List.length_append,List.length_append,List.length_append];simp only [List.length_cons,List.length_nil];omega)]
   refine Ok.ret ?_
   rw [hj,hy,htx,h2]
   simp only [List.map_cons,List.map_nil,List.headD_cons,repT]
   by_cases e:k.Op=1<;>simp [e]
theorem pwrite_eq {x:GNode} (hx:Rgt x) (hc:x.cnt≤1000):F_l [] x=some x.txt :=
 lim_of ⟨2*x.hgt,fun m hm=>by
  have:=(pwrite_ok x m [] hm hx (by simp;omega)).eq
  simpa using this⟩
end Go.Ab
namespace Go.Ab
open Go.Proofs
theorem takeS_map {α β:Type} {f:α→β} {l:List α} {n:Nat} {k:α} (h:l.take (n+1)=l.take n++[k]):(l.take (n+1)).map f=(l.take n).map f++[f k]:=by rw [h,List.map_append];rfl
theorem takeT_le {x:GNode} {n:Nat} {k:GNode} {f:List (Int×Str)→Str} (hf0:f []=[]) (hf:∀a o s,(f (a++[(o,s)])).length≤(f a).length+s.length+2) (hx:Rgt x) (h:x.Kids.take (n+1)=x.Kids.take n++[k]) :
  ((f ((x.Kids.take n).map fun k=>(k.Op,k.txt))).length:Int)+1400*k.cnt≤1400*GNode.cnts x.Kids:=by
 refine kidsT_le (r:=x.Kids.drop (n+1)) hf0 hf hx ?_
 rw [←List.singleton_append,←List.append_assoc,←h,List.take_append_drop]
theorem rset_ok (l:List GRange) (hl:l.length≤128):Ok (loop (fun (x126:Str×Int)=>(bif decide (x126.2<(l.length:Int)) then jn (α:=Str) (chk (inb x126.2 l.length) ((F_13 ((l.getD (x126.2).toNat default).Low)).bind fun y136=>chk (strl (x126.1.length+y136.length)) (chk (inb x126.2 l.length) (chk (inb x126.2 l.length) (bif (!decide ((((l.getD (x126.2).toNat default).High).toNat:Int)=(((l.getD (x126.2).toNat default).Low).toNat:Int))) then chk (inb x126.2 l.length) ((F_13 ((l.getD (x126.2).toNat default).High)).bind fun y137=>chk (strl ([45].length+y137.length)) (chk (strl ((x126.1++y136).length+(([45]:Str)++y137).length)) (some ((x126.1++y136)++(([45]:Str)++y137))))) else some (x126.1++y136)))))) fun j134=>chk (in64 (x126.2+1)) (some (.nx (j134,(x126.2+1)))) else some (.ex x126.1):Option (Fl (Str×Int) Str))) ([91],0)) (·=[91]++setB l):=by
 refine Ok.loop (fun s:Str×Int=>∃n:Nat,s.2=(n:Int)∧n≤l.length∧s.1=[91]++setB (l.take n)) (fun s=>(l.length - s.2).toNat) (fun s hs=>?_) _ ⟨0,rfl,by omega,by simp [setB]⟩
 obtain ⟨s,i⟩:=s
 obtain ⟨n,e,h2,h4⟩:=hs
 dsimp only at e h4
 subst e
 dsimp only
 have e0:(n:Int).toNat=n:=Int.toNat_natCast n
 rw [e0]
 refine Ok.ite (fun d=>?_) fun d=>?_
 ·have d:(n:Int)<l.length:=of_decide_eq_true d
  obtain ⟨r,hr,hg,ht⟩:=at_take (l:=l) (n:=n) (by omega)
  have hi:inb (n:Int) l.length=true:=inb_iff.2 ⟨by omega,d⟩
  have h1:=sgn_ok r.Low
  have h3:=sgn_ok r.High
  have hb:=setB_len (l.take n)
  have hb2:(l.take n).length≤128:=by rw [List.length_take];omega
  have hsl:s.length≤1200:=by rw [h4];simp only [List.length_append,List.length_cons,List.length_nil];omega
  rw [hg]
  refine Ok.jn (P:=fun j=>j=s++rT r) (Ok.chk hi ?_) fun j hj=>?_
  ·rw [h1.2.1]
   simp only [Option.bind_some]
   refine Ok.chk (strl_s (by omega)) (Ok.chk hi (Ok.chk hi (Ok.ite (fun f=>Ok.chk hi ?_) fun f=>Ok.ret ?_)))
   ·rw [h3.2.1]
    simp only [Option.bind_some]
    refine Ok.chk (strl_s (by simp;omega)) (Ok.chk (strl_s (by simp;omega)) (Ok.ret ?_))
    have f:¬(r.High.toNat:Int)=r.Low.toNat:=by simpa using f
    unfold rT;rw [if_neg f];simp
   ·have f:(r.High.toNat:Int)=r.Low.toNat:=by simpa using f
    unfold rT;rw [if_pos f];simp
  ·refine Ok.chk (in64_s (by omega) (by omega)) (Ok.ret ⟨⟨n+1,rfl,by omega,?_⟩,by dsimp only;omega⟩)
   dsimp only
   rw [hj,h4,ht,setB_append];simp [setB]
 ·have d:¬(n:Int)<l.length:=of_decide_eq_false d
  have e:n=l.length:=by omega
  subst e
  rw [List.take_length] at h4
  exact Ok.ret h4
theorem rwrite_ok:∀(x:GNode) (m:Nat),x.hgt≤m→Rgt x→x.cnt≤1000→Ok (FR_f m x) (·=x.txt):=by
 refine GNode.ind fun x ih m hm hx hc=>?_
 obtain ⟨m,rfl⟩:∃n,m=n+1:=⟨m - 1,by have:=hgt_pos x;omega⟩
 have hcq:=cnt_eq x
 have hkl:=kids_cnt x
 have htx:=txt_eq x
 have hrec:∀k∈x.Kids,Ok (FR_f m k) (·=k.txt):=fun k hk=>ih k hk m (by have:=kid_hgt hk;omega) (hx.kid hk) (by have:=kid_cnt hk;omega)
 rw [FR_f]
 refine Ok.ite (fun c=>?_) fun c=>Ok.ite (fun c2=>?_) fun c2=>Ok.ite (fun c3=>?_) fun c3=>?_
 ·have c:=of_decide_eq_true c
  rw [if_pos c] at htx
  have hr:rngP x.Ranges:=by rcases hx.kinds with h|h|h|h<;>first|exact h.2.1|omega
  have hl:=rng_len hr
  rw [htx]
  refine Ok.jn (P:=fun o=>Fl.elim (fun _=>¬(x.Ranges.length=1∧((x.Ranges.getD 0 default).Low.toNat:Int)=(x.Ranges.getD 0 default).High.toNat)) (fun r=>r=setT x.Ranges) o) (Ok.ite (fun c=>?_) fun c=>Ok.ret ?_) fun o ho2=>?_
  ·have c:=of_decide_eq_true c
   have hi:inb 0 x.Ranges.length=true:=inb_iff.2 ⟨by omega,by omega⟩
   refine Ok.chk hi (Ok.chk hi (Ok.ite (fun d=>Ok.chk hi ?_) fun d=>Ok.ret fun h=>(of_decide_eq_false d) h.2))
   have d:=of_decide_eq_true d
   rw [(sgn_ok _).2.1]
   refine Ok.ret ?_
   show _=setT x.Ranges
   unfold setT
   rw [if_pos ⟨by omega,d⟩]
  ·exact fun h=>(of_decide_eq_false c) (by omega)
  ·cases o with
   | ex r=>rw [Fl_ex];exact Ok.ret ho2
   | nx j =>
    rw [Fl_nx]
    refine Ok.bind (rset_ok x.Ranges hl) fun y hy=>?_
    have:=setB_len x.Ranges
    refine Ok.chk (strl_s (by rw [hy];simp;omega)) (Ok.ret ?_)
    unfold setT
    rw [if_neg ho2,hy]
 ·have c:=of_decide_eq_false c
  have c2:=of_decide_eq_true c2
  rw [if_neg c,if_pos c2] at htx
  rw [htx]
  refine Ok.bind (Ok.loop (Q:=fun r=>r=seqT (x.Kids.map fun k=>(k.Op,k.txt))) (fun s:Str×Int=>∃n:Nat,s.2=(n:Int)∧n≤x.Kids.length∧s.1=seqT ((x.Kids.take n).map fun k=>(k.Op,k.txt))) (fun s=>(x.Kids.length - s.2).toNat) (fun s hs=>?_) _ ⟨0,rfl,by omega,by simp [seqT]⟩) fun r hr=>Ok.ret hr
  obtain ⟨s,i⟩:=s
  obtain ⟨n,e,h2,h4⟩:=hs
  dsimp only at e h4
  subst e
  dsimp only
  have e0:(n:Int).toNat=n:=Int.toNat_natCast n
  rw [e0]
  refine Ok.ite (fun d=>?_) fun d=>?_
  ·have d:(n:Int)<x.Kids.length:=of_decide_eq_true d
   obtain ⟨k,hk,hg,ht⟩:=at_take (l:=x.Kids) (n:=n) (by omega)
   have hi:inb (n:Int) x.Kids.length=true:=inb_iff.2 ⟨by omega,d⟩
   have hb:=takeT_le (f:=seqT) rfl seqT_st hx ht
   rw [←h4] at hb
   have hkt:=txt_len k (hx.kid hk)
   have hkc:=cnt_pos k
   rw [hg]
   refine Ok.jn (P:=fun j=>j=s++(if k.Op=3 then par k.txt else k.txt)) (Ok.chk hi (Ok.ite (fun f=>Ok.chk hi (Ok.bind (hrec k hk) fun y hy=>?_)) fun f=>Ok.chk hi (Ok.bind (hrec k hk) fun y hy=>?_))) fun j hj=>?_
   ·subst hy
    refine Ok.chk (strl_s (by simp;omega)) (Ok.chk (strl_s (by simp;omega)) (Ok.chk (strl_s (by simp;omega)) (Ok.ret ?_)))
    rw [if_pos (of_decide_eq_true f)];rfl
   ·subst hy
    refine Ok.chk (strl_s (by omega)) (Ok.ret ?_)
    rw [if_neg (of_decide_eq_false f)]
   ·refine Ok.chk (in64_s (by omega) (by omega)) (Ok.ret ⟨⟨n+1,rfl,by omega,?_⟩,by dsimp only;omega⟩)
    dsimp only
    rw [takeS_map ht,seqT_append,hj,h4]
    simp [seqT]
  ·have d:¬(n:Int)<x.Kids.length:=of_decide_eq_false d
   have e:n=x.Kids.length:=by omega
   subst e
   rw [List.take_length] at h4
   exact Ok.ret h4
 ·have c:=of_decide_eq_false c
  have c2:=of_decide_eq_false c2
  have c3:=of_decide_eq_true c3
  rw [if_neg c,if_neg c2,if_pos c3] at htx
  rw [htx]
  refine Ok.bind (Ok.loop (Q:=fun r=>r=altT (x.Kids.map fun k=>(k.Op,k.txt))) (fun s:Str×Int=>∃n:Nat,s.2=(n:Int)∧n≤x.Kids.length∧s.1=altT ((x.Kids.take n).map fun k=>(k.Op,k.txt))) (fun s=>(x.Kids.length - s.2).toNat) (fun s hs=>?_) _ ⟨0,rfl,by omega,by simp [altT]⟩) fun r hr=>Ok.ret hr
  obtain ⟨s,i⟩:=s
  obtain ⟨n,e,h2,h4⟩:=hs
  dsimp only at e h4
  subst e
  dsimp only
  have e0:(n:Int).toNat=n:=Int.toNat_natCast n
  rw [e0]
  refine Ok.ite (fun d=>?_) fun d=>?_
  ·have d:(n:Int)<x.Kids.length:=of_decide_eq_true d
   obtain ⟨k,hk,hg,ht⟩:=at_take (l:=x.Kids) (n:=n) (by omega)
   have hi:inb (n:Int) x.Kids.length=true:=inb_iff.2 ⟨by omega,d⟩
   have hb:=takeT_le (f:=altT) rfl altT_st hx ht
   rw [←h4] at hb
   have hkt:=txt_len k (hx.kid hk)
   have hkc:=cnt_pos k
   rw [hg]
   refine Ok.jn (P:=fun j=>j=s++(if n=0 then [] else [124])) (Ok.ite (fun f=>Ok.chk (strl_s (by simp;omega)) (Ok.ret ?_)) fun f=>Ok.ret ?_) fun j hj=>?_
   ·have f:=of_decide_eq_true f
    rw [if_neg (by omega)]
   ·have f:=of_decide_eq_false f
    rw [if_pos (by omega),List.append_nil]
   ·have hj1:(if n=0 then ([]:Str) else [124]).length≤1:=by split<;>simp
    refine Ok.chk hi (Ok.bind (hrec k hk) fun y hy=>?_)
    subst hy
    refine Ok.chk (strl_s (by rw [hj,List.length_append];omega)) (Ok.chk (in64_s (by omega) (by omega)) (Ok.ret ⟨⟨n+1,rfl,by omega,?_⟩,by dsimp only;omega⟩))
    dsimp only
    rw [takeS_map ht,altT_snoc,hj,h4,List.length_map,List.length_take,Nat.min_eq_left h2]
  ·have d:¬(n:Int)<x.Kids.length:=of_decide_eq_false d
   have e:n=x.Kids.length:=by omega
   subst e
   rw [List.take_length] at h4
   exact Ok.ret h4
 ·have c:=of_decide_eq_false c
  have c2:=of_decide_eq_false c2
  have c3:=of_decide_eq_false c3
  rw [if_neg c,if_neg c2,if_neg c3] at htx
  obtain ⟨k,h2,h3,h4,h5,h6⟩:∃k,x.Kids=[k]∧0≤x.Min∧1≤x.Max∧x.Min≤x.Max∧x.Max≤64:=by
   rcases hx.kinds with h|h|h|⟨_,⟨k,h⟩,h2⟩
   ·omega
   ·omega
   ·omega
   ·exact ⟨k,h,h2⟩
  have hk:k∈x.Kids:=by rw [h2];simp
  have hg:x.Kids.getD 0 default=k:=by rw [h2];rfl
  have hkc:=kid_cnt hk
  have hkt:=txt_len k (hx.kid hk)
  have n1:=num_ok (n:=x.Min) h3 (by omega)
  have n2:=num_ok (n:=x.Max) (by omega) h6
  have hi:inb 0 x.Kids.length=true:=inb_iff.2 ⟨by omega,by rw [h2];simp⟩
  rw [hg]
  refine Ok.chk hi (Ok.bind (hrec k hk) fun y hy=>?_)
  subst hy
  refine Ok.jn (P:=fun j=>j=if k.Op=1 then k.txt else par k.txt) (Ok.chk hi (Ok.ite (fun f=>Ok.chk (strl_s (by simp;omega)) (Ok.chk (strl_s (by simp;omega)) (Ok.ret ?_))) fun f=>Ok.ret ?_)) fun j hj=>?_
  ·have f:¬k.Op=1:=by simpa using f
   rw [if_neg f];rfl
  ·have f:k.Op=1:=by simpa using f
   rw [if_pos f]
  ·have hjl:j.length≤1500000:=by
    have:(if k.Op=1 then k.txt else par k.txt).length≤k.txt.length+2:=by split<;>simp [par]
    rw [hj];omega
   rw [n1.1]
   simp only [Option.bind_some]
   refine Ok.chk (strl_s (by simp;omega)) (Ok.chk (strl_s (by simp;omega)) (Ok.jn (P:=fun t=>t=j++([123]++Lib.itoa x.Min)++(if x.Max=x.Min then [] else [44]++Lib.itoa x.Max)) (Ok.ite (fun d=>?_) fun d=>Ok.ret ?_) fun t ht=>?_))
   ·have d:¬x.Max=x.Min:=by simpa using d
    rw [n2.1]
    simp only [Option.bind_some]
    refine Ok.chk (strl_s (by simp;omega)) (Ok.chk (strl_s (by simp;omega)) (Ok.ret ?_))
    rw [if_neg d]
   ·have d:x.Max=x.Min:=by simpa using d
    rw [if_pos d,List.append_nil]
   ·have:(if x.Max=x.Min then ([]:Str) else [44]++Lib.itoa x.Max).length≤3:=by split<;>simp<;>omega
    refine Ok.chk (strl_s (by rw [ht];rw [List.length_append,List.length_append,List.length_append];simp only [List.length_cons,List.length_nil];omega)) (Ok.ret ?_)
    rw [ht,hj,htx,h2]
    simp only [List.map_cons,List.map_nil,List.headD_cons,repT]
theorem rwrite_eq {x:GNode} (hx:Rgt x) (hc:x.cnt≤1000):F_f x=some x.txt:=lim_of ⟨x.hgt,fun m hm=>(rwrite_ok x m hm hx hc).eq⟩
theorem text_same (x:GNode):∃v,F_18 x=some v∧F_1e x=some v:=by
 unfold F_18 F_1e
 rw [valid_eq,rvalid_eq]
 simp only [Option.bind_some]
 by_cases c:x.err=0
 ·have hv:=err_zero.1 c
  have hc:x.cnt≤1000:=by have:=hv.cnt;omega
  rw [decide_eq_true c,pwrite_eq hv.rgt hc,rwrite_eq hv.rgt hc]
  exact ⟨_,rfl,rfl⟩
 ·rw [decide_eq_false c]
  exact ⟨_,rfl,rfl⟩
end Go.Ab
namespace Go.Ab
open Go.Proofs
theorem take_yes {r:Greader} {p q:Str} (h:r.text_=p++q):F_0 r p=some (true,Greader.mk q r.wrong_ r.deep_):=by
 have h1:F_1g r.text_ p=some true:=by
  refine Ok.eq ?_
  unfold F_1g
  refine Ok.jn (P:=fun v=>v=true) (Ok.ite (fun c=>Ok.chk (inc_iff.2 ⟨by omega,by omega,by rw [h,List.length_append];omega⟩) (Ok.ret ?_)) fun c=>?_) fun v hv=>Ok.ret hv
  ·rw [h];simp
  ·have c:=of_decide_eq_false c
   rw [h] at c;simp at c
   omega
 have h2:F_1h r.text_ p=some (q,true):=by
  refine Ok.eq ?_
  unfold F_1h
  rw [h1,Option.bind_some]
  refine Ok.ite (fun c=>by cases c) fun _=>Ok.chk (inc_iff.2 ⟨by omega,by rw [h,List.length_append];omega,by omega⟩) (Ok.ret ?_)
  rw [h,Int.toNat_natCast];simp
 unfold F_0 F_1t
 rw [h2];rfl
theorem take_no {r:Greader} {p:Str} (h:r.text_.take p.length≠p):F_0 r p=some (false,r):=by
 have h1:F_1g r.text_ p=some false:=by
  refine Ok.eq ?_
  unfold F_1g
  refine Ok.jn (P:=fun v=>v=false) (Ok.ite (fun c=>Ok.chk (inc_iff.2 ⟨by omega,by omega,by have:=of_decide_eq_true c;omega⟩) (Ok.ret ?_)) fun c=>Ok.ret rfl) fun v hv=>Ok.ret hv
  rw [Int.toNat_natCast];exact decide_eq_false h
 have h2:F_1h r.text_ p=some (r.text_,false):=by
  unfold F_1h
  rw [h1];rfl
 unfold F_0 F_1t
 rw [h2];cases r;rfl
theorem take_any (r:Greader) (p:Str):∃b r',F_0 r p=some (b,r')∧r'.wrong_=r.wrong_∧r'.deep_=r.deep_∧r'.text_.length≤r.text_.length∧(b=true→r.text_=p++r'.text_)∧(b=false→r'=r):=by
 by_cases h:r.text_.take p.length=p
 ·obtain ⟨q,hq⟩:∃q,r.text_=p++q:=⟨r.text_.drop p.length,by
   have:=List.take_append_drop p.length r.text_
   rw [h] at this;exact this.symm⟩
  exact ⟨true,_,take_yes hq,rfl,rfl,by rw [hq];simp,fun _=>hq,fun h=>by cases h⟩
 ·exact ⟨false,r,take_no h,rfl,rfl,Nat.le_refl _,(fun h=>by cases h),fun _=>rfl⟩
end Go.Ab
namespace Go.Ab
open Go.Proofs
def sgnC (i:Nat):Bool:=match F_c (UInt8.ofNat i) with
 | some [d]=>decide (d.toNat=i)&&decide (Lib.indexByte [92,91,93,40,41,123,125,124,45] d<0)
 | some [a,b,h,l]=>decide (a=92)&&(decide (b=120)&&decide (hexN 0 [h,l]=some i))
 | _=>false
theorem sgnC_all:(List.range 256).all sgnC=true:=by kernel_rfl
theorem sgn_two (c:UInt8):(F_c c=some [c]∧Lib.indexByte [92,91,93,40,41,123,125,124,45] c<0)∨∃h l,F_c c=some [92,120,h,l]∧hexN 0 [h,l]=some c.toNat:=by
 have hc:=List.all_eq_true.1 sgnC_all c.toNat (List.mem_range.2 c.toNat_lt)
 unfold sgnC at hc
 rw [show UInt8.ofNat c.toNat=c from by simp] at hc
 match hs:F_c c with
 | some [d] =>
  rw [hs] at hc
  simp only [Bool.and_eq_true,decide_eq_true_eq] at hc
  obtain rfl:=UInt8.toNat_inj.1 hc.1
  exact .inl ⟨rfl,hc.2⟩
 | some [a,b,h,l] =>
  rw [hs] at hc
  simp only [Bool.and_eq_true,decide_eq_true_eq] at hc
  obtain ⟨rfl,rfl,hx⟩:=hc
  exact .inr ⟨h,l,rfl,hx⟩
 | none=>rw [hs] at hc;cases hc
 | some []=>rw [hs] at hc;cases hc
 | some [_,_]=>rw [hs] at hc;cases hc
 | some [_,_,_]=>rw [hs] at hc;cases hc
 | some (_::_::_::_::_::_)=>rw [hs] at hc;cases hc
theorem one_back {c:UInt8} {s q:Str} {w:Bool} {d:Int} (hs:F_c c=some s):F_t (Greader.mk (s++q) w d)=some (c,Greader.mk q w d):=by
 rcases sgn_two c with ⟨h,h2⟩|⟨a,b,h,h2⟩
 ·rw [h] at hs
  cases hs
  have hne:c≠92:=by rintro rfl;revert h2;decide
  have hn:F_0 (Greader.mk ([c]++q) w d) [92,120]=some (false,Greader.mk ([c]++q) w d):=take_no (by
   show (c::q).take 2≠[92,120]
   cases q with
   | nil=>simp
   | cons e r=>simp;intro h;exact absurd h hne)
  refine Ok.eq ?_
  unfold F_t
  rw [hn,Option.bind_some]
  refine Ok.ite (fun f=>by cases f) fun _=>Ok.ite (fun f=>by have:=of_decide_eq_true f;simp at this) fun _=>?_
  refine Ok.chk (inb_iff.2 ⟨by omega,by simp⟩) ?_
  have hi:F_1d [92,91,93,40,41,123,125,124,45] (([c]++q).getD 0 0)=some (Lib.indexByte [92,91,93,40,41,123,125,124,45] c):=rfl
  show Ok ((F_1d [92,91,93,40,41,123,125,124,45] (([c]++q).getD 0 0)).bind _) _
  rw [hi,Option.bind_some]
  refine Ok.ite (fun f=>by have:=of_decide_eq_true f;omega) fun _=>Ok.chk (inb_iff.2 ⟨by omega,by simp⟩) (Ok.chk (inc_iff.2 ⟨by omega,by simp;omega,by simp⟩) (Ok.ret rfl))
 ·rw [h] at hs
  cases hs
  have hy:F_0 (Greader.mk ([92,120,a,b]++q) w d) [92,120]=some (true,Greader.mk ([a,b]++q) w d):=take_yes (q:=[a,b]++q) rfl
  have hp:puE [a,b] 16 8=some ((c.toNat:Int),true):=by
   unfold puE
   rw [h2];rfl
  refine Ok.eq ?_
  unfold F_t
  rw [hy,Option.bind_some]
  refine Ok.ite (fun _=>?_) fun f=>by cases f
  refine Ok.ite (fun f=>by have:=of_decide_eq_true f;simp at this;omega) fun _=>Ok.chk (inc_iff.2 ⟨by omega,by omega,by simp;omega⟩) ?_
  show Ok ((puE [a,b] 16 8).bind _) _
  rw [hp,Option.bind_some]
  refine Ok.grp (Ok.chk (inc_iff.2 ⟨by omega,by simp;omega,by simp⟩) (Ok.ret ?_))
  have hu:u8 (c.toNat:Int)=c:=by
   apply UInt8.toNat_inj.1
   have:=u8_toNat (c.toNat:Int)
   have:=c.toNat_lt
   omega
  show (u8 (c.toNat:Int),Greader.mk q (w||!true) d)=_
  rw [hu];simp
end Go.Ab
namespace Go.Ab
open Go.Proofs
def signs8:List UInt8:=[91,93,40,41,123,125,124,45]
def headC (i:Nat):Bool:=match F_c (UInt8.ofNat i) with
 | some (b::_)=>!signs8.contains b
 | _=>false
theorem headC_all:(List.range 256).all headC=true:=by kernel_rfl
theorem sgn_head (c:UInt8):∃b t,F_c c=some (b::t)∧b∉signs8:=by
 have hc:=List.all_eq_true.1 headC_all c.toNat (List.mem_range.2 c.toNat_lt)
 unfold headC at hc
 rw [show UInt8.ofNat c.toNat=c from by simp] at hc
 match hs:F_c c with
 | some (b::t) =>
  rw [hs] at hc
  exact ⟨b,t,rfl,by simpa using hc⟩
 | none=>rw [hs] at hc;cases hc
 | some []=>rw [hs] at hc;cases hc
theorem take_sgn {c b:UInt8} {s q:Str} {w:Bool} {d:Int} (hs:F_c c=some s) (hb:b∈signs8):F_0 (Greader.mk (s++q) w d) [b]=some (false,Greader.mk (s++q) w d):=by
 obtain ⟨a,t,h1,h2⟩:=sgn_head c
 rw [h1] at hs
 cases hs
 exact take_no (by
  show (a::(t++q)).take 1≠[b]
  intro h
  simp at h
  exact h2 (h▸hb))
theorem take_sign {a b:UInt8} {q:Str} {w:Bool} {d:Int} (h:a≠b):F_0 (Greader.mk (a::q) w d) [b]=some (false,Greader.mk (a::q) w d):=take_no (by
 show (a::q).take 1≠[b]
 intro e
 simp at e
 exact h e)
end Go.Ab
namespace Go.Ab
open Go.Proofs
def sgR (c:UInt8):Str:=(F_c c).getD []
theorem sgR_eq (c:UInt8):F_c c=some (sgR c):=by
 obtain ⟨b,t,h,_⟩:=sgn_head c
 unfold sgR;rw [h];rfl
def rTR (r:GRange):Str:=sgR r.Low++(if (r.High.toNat:Int)=r.Low.toNat then [] else [45]++sgR r.High)
def setBR:List GRange→Str
 | []=>[]
 | r::q=>rTR r++setBR q
theorem setBR_next (l:List GRange) (q:Str):∃b t,setBR l++[93]++q=b::t∧b≠45:=by
 cases l with
 | nil=>exact ⟨93,q,rfl,by decide⟩
 | cons r l =>
  obtain ⟨b,t,h,hb⟩:=sgn_head r.Low
  have:sgR r.Low=b::t:=by unfold sgR;rw [h];rfl
  refine ⟨b,t++((if (r.High.toNat:Int)=r.Low.toNat then [] else [45]++sgR r.High)++(setBR l++([93]++q))),by simp only [setBR,rTR,this];simp,fun e=>hb (by rw [e];decide)⟩
theorem set_step {r:GRange} {l pre:List GRange} {q:Str} {d:Int} (hl:pre.length≤1000) :
  F_15 (pre,Greader.mk (setBR (r::l)++[93]++q) false d)=some (.nx (pre++[r],Greader.mk (setBR l++[93]++q) false d)):=by
 have e1:setBR (r::l)++[93]++q=sgR r.Low++((if (r.High.toNat:Int)=r.Low.toNat then [] else [45]++sgR r.High)++(setBR l++[93]++q)):=by simp [setBR,rTR]
 rw [e1]
 refine Ok.eq ?_
 unfold F_15
 refine Ok.ite (fun _=>?_) fun f=>by cases f
 rw [take_sgn (b:=93) (sgR_eq r.Low) (by decide),Option.bind_some]
 refine Ok.ite (fun _=>?_) fun f=>by cases f
 dsimp only
 rw [one_back (sgR_eq r.Low),Option.bind_some]
 refine Ok.jn (P:=fun j=>j=(Greader.mk (setBR l++[93]++q) false d,r)) ?_ fun j hj=>?_
 ·dsimp only
  by_cases c:(r.High.toNat:Int)=r.Low.toNat
  ·rw [if_pos c,List.nil_append]
   obtain ⟨b,t,h,hb⟩:=setBR_next l q
   rw [h,take_sign hb,Option.bind_some]
   refine Ok.ite (fun f=>by cases f) fun _=>Ok.ret ?_
   have:r.High=r.Low:=UInt8.toNat_inj.1 (by omega)
   cases r
   simp only at this
   rw [this]
  ·rw [if_neg c]
   rw [take_yes (q:=sgR r.High++(setBR l++[93]++q)) (by simp),Option.bind_some]
   refine Ok.ite (fun _=>?_) fun f=>by cases f
   dsimp only
   rw [one_back (sgR_eq r.High)]
   exact Ok.ret rfl
 ·subst hj
  exact Ok.chk (room_s (by simp;omega)) (Ok.ret rfl)
theorem set_back {q:Str} {d:Int}:∀(l pre:List GRange),pre.length+l.length≤1000→Ok (loop F_15 (pre,Greader.mk (setBR l++[93]++q) false d)) (·=(pre++l,Greader.mk q false d))
 | [],pre,hl=>by
  rw [loop_eq]
  have:F_15 (pre,Greader.mk ([]++[93]++q) false d)=some (.ex (pre,Greader.mk q false d)):=by
   refine Ok.eq ?_
   unfold F_15
   refine Ok.ite (fun _=>?_) fun f=>by cases f
   rw [take_yes (q:=q) (by simp),Option.bind_some]
   exact Ok.ite (fun f=>by cases f) fun _=>Ok.ret rfl
  show Ok ((F_15 (pre,Greader.mk ([]++[93]++q) false d)).bind _) _
  rw [this]
  exact Ok.ret (by simp)
 | r::l,pre,hl=>by
  rw [loop_eq,set_step (by simp at hl;omega)]
  simp only [List.length_cons] at hl
  have:=set_back (q:=q) (d:=d) l (pre++[r]) (by simp;omega)
  have e:pre++r::l=pre++[r]++l:=by simp
  rw [e]
  exact this
theorem setR_back {q:Str} {d:Int} {l:List GRange} (hl:l.length≤1000):F_12 (Greader.mk (setBR l++[93]++q) false d)=some (GNode.mk 1 l [] 0 0,Greader.mk q false d):=by
 refine Ok.eq ?_
 unfold F_12
 refine Ok.bind (set_back l [] (by simpa using hl)) fun y hy=>?_
 subst hy
 exact Ok.ret rfl
end Go.Ab
namespace Go.Ab
open Go.Proofs
def digs:Str:=[48,49,50,51,52,53,54,55,56,57]
theorem num_tab:(List.range 65).all (fun i=>decide (atoiE (Lib.itoa ((i:Nat):Int))=some (((i:Nat):Int),true))&&(Lib.itoa ((i:Nat):Int)).all (fun c=>digs.contains c))=true:=by kernel_rfl
theorem dropW {s:Str} {f:UInt8→Bool} {b:UInt8} {q:Str} (h:s.all f=true) (hb:f b=false):(s++b::q).dropWhile f=b::q:=by
 induction s with
 | nil=>simp [List.dropWhile,hb]
 | cons a r ih =>
  simp only [List.all_cons,Bool.and_eq_true] at h
  rw [List.cons_append,List.dropWhile_cons,h.1]
  exact ih h.2
theorem number_back {n:Int} (h0:0≤n) (h1:n≤64) {b:UInt8} {q:Str} {d:Int} (hb:digs.contains b=false) (hq:(b::q).length≤1000000000):F_u (Greader.mk (Lib.itoa n++b::q) false d)=some (n,Greader.mk (b::q) false d):=by
 obtain ⟨k,rfl⟩:=Int.eq_ofNat_of_zero_le h0
 have h:=List.all_eq_true.1 num_tab k (List.mem_range.2 (by omega))
 simp only [Bool.and_eq_true,decide_eq_true_eq] at h
 obtain ⟨ha,hd⟩:=h
 have hln:(Lib.itoa (k:Int)).length≤21:=Lib.itoa_length_le k (by omega) (by omega)
 have ht:trimLI (Lib.itoa (k:Int)++b::q) [48,49,50,51,52,53,54,55,56,57]=some (b::q):=by
  refine Ok.eq (Ok.chk (by decide) (Ok.ret ?_))
  exact dropW hd hb
 refine Ok.eq ?_
 unfold F_u
 rw [ht,Option.bind_some]
 have e1:(((Lib.itoa (k:Int)++b::q).length:Int) - ((b::q).length:Int))=(Lib.itoa (k:Int)).length:=by rw [List.length_append];omega
 dsimp only
 rw [e1,Int.toNat_natCast,List.take_left,ha]
 refine Ok.chk (in64_s (by omega) (by omega)) (Ok.chk (inc_iff.2 ⟨by omega,by omega,by rw [List.length_append];omega⟩) ?_)
 exact Ok.ret rfl
end Go.Ab
namespace Go.Ab
open Go.Proofs
theorem setB_R:∀l:List GRange,setB l=setBR l
 | []=>rfl
 | r::q=>by simp only [setB,setBR,setB_R q];rfl
noncomputable def itA (n:Nat) (r_:Greader):Option (GNode×Greader):=(F_0 r_ [40]).bind fun y13=>bif y13.1 then (FR_2 n y13.2).bind fun y15=>(F_m y15.2 [41]).bind fun y16=>some (y15.1,y16) else (F_0 y13.2 [91]).bind fun y18=>bif y18.1 then (F_12 y18.2).bind fun y19=>some (y19.1,y19.2) else (F_t y18.2).bind fun y21=>some ((GNode.mk 1 [(GRange.mk y21.1 y21.1)] [] 0 0),y21.2)
noncomputable def itB (j11:GNode×Greader):Option (GNode×Greader):=(F_0 j11.2 [123]).bind fun y35=>bif y35.1 then (F_u y35.2).bind fun y37=>(F_0 y37.2 [44]).bind fun y42=>bif y42.1 then (F_u y42.2).bind fun y43=>(F_m y43.2 [125]).bind fun y44=>some ((GNode.mk 4 [] [j11.1] y37.1 y43.1),y44) else (F_m y42.2 [125]).bind fun y45=>some ((GNode.mk 4 [] [j11.1] y37.1 y37.1),y45) else some (j11.1,y35.2)
theorem item_eq (n:Nat) (r:Greader):FR_3 (n+1) r=jn (α:=GNode×Greader) (itA n r) fun j=>itB j:=by
 rw [FR_3];rfl
def notb (b:UInt8) (q:Str):Prop:=q.take 1≠[b]
theorem notb_cons {a b:UInt8} {q:Str} (h:a≠b):notb b (a::q):=by
 unfold notb;simp;exact h
theorem need_yes {q:Str} {b:UInt8} {d:Int}:F_m (Greader.mk (b::q) false d) [b]=some (Greader.mk q false d):=by
 unfold F_m
 rw [take_yes (q:=q) (by rfl)];rfl
theorem itA_set {x:GNode} (hx:Rgt x) (ho:x.Op=1) {n:Nat} {q:Str} {d:Int}:itA n (Greader.mk (x.txt++q) false d)=some (x,Greader.mk q false d):=by
 have hk:rngP x.Ranges∧x.Ranges≠[]∧x.Kids=[]∧x.Min=0∧x.Max=0:=by
  rcases hx.ok with h|⟨h,_⟩|⟨h,_⟩
  ·exact h.2
  ·omega
  ·omega
 obtain ⟨h1,h2,h3,h4,h5⟩:=hk
 have ht:x.txt=setT x.Ranges:=by rw [txt_eq,if_pos ho]
 have hl:=rng_len h1
 cases x with|mk o rs ks mi ma=>?_
 dsimp only at ho h1 h2 h3 h4 h5 ht hl
 subst ho h3 h4 h5
 rw [ht]
 unfold setT itA
 by_cases c:rs.length=1∧((rs.getD 0 default).Low.toNat:Int)=(rs.getD 0 default).High.toNat
 ·rw [if_pos c]
  obtain ⟨r,rfl⟩:=List.length_eq_one_iff.1 c.1
  have e:r=GRange.mk r.Low r.Low:=by
   have:=toNat_inj' c.2
   cases r
   simp at this
   simp [this]
  show ((F_0 (Greader.mk (sgR r.Low++q) false d) [40]).bind _)=_
  rw [take_sgn (sgR_eq r.Low) (by decide),Option.bind_some]
  show ((F_0 (Greader.mk (sgR r.Low++q) false d) [91]).bind _)=_
  rw [take_sgn (sgR_eq r.Low) (by decide),Option.bind_some]
  show ((F_t (Greader.mk (sgR r.Low++q) false d)).bind _)=_
  rw [one_back (sgR_eq r.Low),Option.bind_some]
  rw [←e]
 ·rw [if_neg c,setB_R]
  have e:[91]++setBR rs++[93]++q=91::(setBR rs++[93]++q):=by simp
  rw [e,take_sign (by decide),Option.bind_some]
  show ((F_0 (Greader.mk (91::(setBR rs++[93]++q)) false d) [91]).bind _)=_
  rw [take_yes (q:=setBR rs++[93]++q) rfl,Option.bind_some]
  show ((F_12 (Greader.mk (setBR rs++[93]++q) false d)).bind _)=_
  rw [setR_back (by omega)]
  rfl
theorem itA_par {x:GNode} {n:Nat} {q:Str} {d:Int} (hc:FR_2 n (Greader.mk (x.txt++41::q) false d)=some (x,Greader.mk (41::q) false d)):itA n (Greader.mk (par x.txt++q) false d)=some (x,Greader.mk q false d):=by
 have e:par x.txt++q=40::(x.txt++41::q):=by simp [par]
 unfold itA
 rw [e,take_yes (q:=x.txt++41::q) rfl,Option.bind_some]
 show ((FR_2 n (Greader.mk (x.txt++41::q) false d)).bind _)=_
 rw [hc,Option.bind_some]
 show ((F_m (Greader.mk (41::q) false d) [41]).bind _)=_
 rw [need_yes];rfl
theorem itB_no {x:GNode} {q:Str} {d:Int} (h:notb 123 q):itB (x,Greader.mk q false d)=some (x,Greader.mk q false d):=by
 unfold itB
 rw [take_no (by exact h)];rfl
theorem itB_yes {x:GNode} {mi ma:Int} {q:Str} {d:Int} (h1:0≤mi) (h2:mi≤64) (h3:0≤ma) (h4:ma≤64) (hq:q.length≤100000000) :
  itB (x,Greader.mk ([123]++Lib.itoa mi++(if ma=mi then [] else [44]++Lib.itoa ma)++[125]++q) false d)=some (GNode.mk 4 [] [x] mi ma,Greader.mk q false d):=by
 have l1:=(num_ok h1 h2).2.2
 have l2:=(num_ok h3 h4).2.2
 unfold itB
 by_cases c:ma=mi
 ·subst c
  rw [if_pos rfl]
  have e:[123]++Lib.itoa ma++[]++[125]++q=123::(Lib.itoa ma++125::q):=by simp
  rw [e,take_yes (q:=Lib.itoa ma++125::q) rfl,Option.bind_some]
  show ((F_u (Greader.mk (Lib.itoa ma++125::q) false d)).bind _)=_
  rw [number_back h1 h2 (by decide) (by simp;omega),Option.bind_some]
  show ((F_0 (Greader.mk (125::q) false d) [44]).bind _)=_
  rw [take_sign (by decide),Option.bind_some]
  show ((F_m (Greader.mk (125::q) false d) [125]).bind _)=_
  rw [need_yes];rfl
 ·rw [if_neg c]
  have e:[123]++Lib.itoa mi++([44]++Lib.itoa ma)++[125]++q=123::(Lib.itoa mi++44::(Lib.itoa ma++125::q)):=by simp
  rw [e,take_yes (q:=Lib.itoa mi++44::(Lib.itoa ma++125::q)) rfl,Option.bind_some]
  show ((F_u (Greader.mk (Lib.itoa mi++44::(Lib.itoa ma++125::q)) false d)).bind _)=_
  rw [number_back h1 h2 (by decide) (by simp;omega),Option.bind_some]
  show ((F_0 (Greader.mk (44::(Lib.itoa ma++125::q)) false d) [44]).bind _)=_
  rw [take_yes (q:=Lib.itoa ma++125::q) rfl,Option.bind_some]
  show ((F_u (Greader.mk (Lib.itoa ma++125::q) false d)).bind _)=_
  rw [number_back h3 h4 (by decide) (by simp;omega),Option.bind_some]
  show ((F_m (Greader.mk (125::q) false d) [125]).bind _)=_
  rw [need_yes];rfl
def itT (k:GNode):Str:=if k.Op=3 then par k.txt else k.txt
theorem setT_head (l:List GRange):∃b t,setT l=b::t∧b≠124∧b≠41∧b≠123:=by
 unfold setT
 split
 ·obtain ⟨b,t,h,hb⟩:=sgn_head (l.getD 0 default).Low
  exact ⟨b,t,by unfold sgn;rw [h];rfl,fun e=>hb (by rw [e];decide),fun e=>hb (by rw [e];decide),fun e=>hb (by rw [e];decide)⟩
 ·exact ⟨91,_,rfl,by decide,by decide,by decide⟩
theorem itT_head {k:GNode} (hk:Rgt k) (ho:k.Op≠2):∃b t,itT k=b::t∧b≠124∧b≠41∧b≠123:=by
 have hp:∀s:Str,∃b t,par s=b::t∧b≠124∧b≠41∧b≠123:=fun s=>⟨40,s++[41],by simp [par],by decide,by decide,by decide⟩
 unfold itT
 by_cases c:k.Op=3
 ·rw [if_pos c];exact hp _
 ·rw [if_neg c,txt_eq]
  by_cases c1:k.Op=1
  ·rw [if_pos c1];exact setT_head _
  ·rw [if_neg c1,if_neg ho,if_neg c]
   have h4:∃a,k.Kids=[a]:=by
    rcases hk.kinds with h|h|h|h
    ·exact absurd h.1 c1
    ·exact absurd h.1 ho
    ·exact absurd h.1 c
    ·exact h.2.1
   obtain ⟨a,h4⟩:=h4
   rw [h4]
   simp only [List.map_cons,List.map_nil,List.headD_cons,repT]
   by_cases c2:a.Op=1
   ·rw [if_pos c2,txt_eq,if_pos c2]
    obtain ⟨b,t,h,hb⟩:=setT_head a.Ranges
    rw [h];exact ⟨b,_,rfl,hb⟩
   ·rw [if_neg c2]
    obtain ⟨b,t,h,hb⟩:=hp a.txt
    rw [h];exact ⟨b,_,rfl,hb⟩
theorem seqT_its (l:List GNode):seqT (l.map fun k=>(k.Op,k.txt))=(l.map itT).flatten:=by
 induction l with
 | nil=>rfl
 | cons a r ih=>simp only [List.map_cons,seqT,ih,List.flatten_cons];rfl
theorem barT_bars (l:List GNode):barT (l.map fun k=>(k.Op,k.txt))=(l.map fun k=>124::k.txt).flatten:=by
 induction l with
 | nil=>rfl
 | cons a r ih=>simp only [List.map_cons,barT,ih,List.flatten_cons];simp
def endq (q:Str):Prop:=q=[]∨∃t,q=124::t∨q=41::t
theorem endq_not {q:Str} (h:endq q):notb 123 q:=by
 rcases h with rfl|⟨t,rfl|rfl⟩
 ·unfold notb;simp
 ·exact notb_cons (by decide)
 ·exact notb_cons (by decide)
end Go.Ab
namespace Go.Ab
open Go.Proofs
theorem more_no {q:Str} (h:endq q) {w:Bool} {d:Int}:F_v (Greader.mk q w d)=some false:=by
 rcases h with rfl|⟨t,rfl|rfl⟩
 ·rfl
 ·have i:inb 0 ((124:UInt8)::t).length=true:=inb_iff.2 ⟨by omega,by simp⟩
  refine Ok.eq ?_
  unfold F_v
  refine Ok.jn (P:=(·=false)) (Ok.ite (fun _=>Ok.chk i (Ok.ret rfl)) fun f=>by simp at f) fun j hj=>?_
  subst hj
  exact Ok.jn (P:=(·=false)) (Ok.ite (fun f=>by cases f) fun f=>Ok.ret rfl) fun j hj=>Ok.ret hj
 ·have i:inb 0 ((41:UInt8)::t).length=true:=inb_iff.2 ⟨by omega,by simp⟩
  refine Ok.eq ?_
  unfold F_v
  refine Ok.jn (P:=(·=true)) (Ok.ite (fun _=>Ok.chk i (Ok.ret rfl)) fun f=>by simp at f) fun j hj=>?_
  subst hj
  exact Ok.jn (P:=(·=false)) (Ok.ite (fun _=>Ok.chk i (Ok.ret rfl)) fun f=>by cases f) fun j hj=>Ok.ret hj
theorem more_yes {b:UInt8} {q:Str} (h1:b≠124) (h2:b≠41) {w:Bool} {d:Int}:F_v (Greader.mk (b::q) w d)=some true:=by
 have i:inb 0 (b::q).length=true:=inb_iff.2 ⟨by omega,by simp⟩
 have e1:decide ((b.toNat:Int)=124)=false:=decide_eq_false fun h=>h1 (UInt8.toNat_inj.1 (by show b.toNat=124;omega))
 have e2:decide ((b.toNat:Int)=41)=false:=decide_eq_false fun h=>h2 (UInt8.toNat_inj.1 (by show b.toNat=41;omega))
 refine Ok.eq ?_
 unfold F_v
 refine Ok.jn (P:=(·=true)) (Ok.ite (fun _=>Ok.chk i (Ok.ret ?_)) fun f=>by simp at f) fun j hj=>?_
 ·show (!decide ((b.toNat:Int)=124))=true
  rw [e1];rfl
 ·subst hj
  refine Ok.jn (P:=(·=true)) (Ok.ite (fun _=>Ok.chk i (Ok.ret ?_)) fun f=>by simp at f) fun j hj=>Ok.ret hj
  show (!decide ((b.toNat:Int)=41))=true
  rw [e2];rfl
theorem bar_no {q:Str} (h:notb 124 q) {w:Bool} {d:Int}:F_x (Greader.mk q w d)=some (false,Greader.mk q w d):=by
 unfold F_x
 rw [take_no (by exact h)];rfl
theorem bar_yes {q:Str} {w:Bool} {d:Int}:F_x (Greader.mk (124::q) w d)=some (true,Greader.mk q w d):=by
 unfold F_x
 rw [take_yes (q:=q) rfl];rfl
noncomputable def liF (n:Nat) (x34:Int×(List GNode)×Greader):Option (Fl (Int×(List GNode)×Greader) (Int×(List GNode)×Greader)):=bif (!x34.2.2.wrong_) then (F_v x34.2.2).bind fun y43=>bif y43 then (FR_3 n x34.2.2).bind fun y44=>chk (room (x34.2.1.length+[y44.1].length) 72) (some (.nx (x34.1,(x34.2.1++[y44.1]),y44.2))) else some (.ex (x34.1,x34.2.1,x34.2.2)) else some (.ex (x34.1,x34.2.1,x34.2.2))
noncomputable def lsF (n:Nat) (x34:Int×(List GNode)×Greader):Option (Fl (Int×(List GNode)×Greader) (Int×(List GNode)×Greader)):=bif (!x34.2.2.wrong_) then (F_x x34.2.2).bind fun y43=>bif y43.1 then (FR_5 n y43.2).bind fun y44=>chk (room (x34.2.1.length+[y44.1].length) 72) (some (.nx (x34.1,(x34.2.1++[y44.1]),y44.2))) else some (.ex (x34.1,x34.2.1,y43.2)) else some (.ex (x34.1,x34.2.1,x34.2.2))
def lend (r45:Int×(List GNode)×Greader):Option (GNode×Greader):=bif decide ((r45.2.1.length:Int)=1) then chk (inb 0 r45.2.1.length) (some (r45.2.1.getD 0 default,r45.2.2)) else some ((GNode.mk r45.1 [] r45.2.1 0 0),r45.2.2)
theorem li_eq (n:Nat) (r:Greader) (op:Int):FR_d (n+1) r op=(FR_3 n r).bind fun y2=>(loop (liF n) (op,[y2.1],y2.2)).bind lend:=by
 rw [FR_d];rfl
theorem ls_eq (n:Nat) (r:Greader) (op:Int):FR_k (n+1) r op=(FR_5 n r).bind fun y2=>(loop (lsF n) (op,[y2.1],y2.2)).bind lend:=by
 rw [FR_k];rfl
theorem sq_eq (n:Nat) (r:Greader):FR_5 (n+1) r=FR_d n r 2:=by
 rw [FR_5]
 cases FR_d n r 2<;>rfl
theorem lend_one {o:Int} {x:GNode} {r:Greader}:lend (o,[x],r)=some (x,r):=Ok.eq (Ok.ite (fun _=>Ok.chk (inb_iff.2 ⟨by omega,by simp⟩) (Ok.ret rfl)) fun f=>by simp at f)
theorem lend_more {o:Int} {l:List GNode} {r:Greader} (h:2≤l.length):lend (o,l,r)=some (GNode.mk o [] l 0 0,r):=by
 unfold lend
 have:decide ((l.length:Int)=1)=false:=decide_eq_false (by omega)
 show (bif decide ((l.length:Int)=1) then _ else _)=_
 rw [this];rfl
theorem li_loop {n:Nat} {q:Str} {d o:Int} (hq:endq q):∀(l pre:List GNode),(∀k∈l,Rgt k∧k.Op≠2∧∀q',notb 123 q'→(itT k).length+q'.length≤((l.map itT).flatten++q).length→FR_3 n (Greader.mk (itT k++q') false d)=some (k,Greader.mk q' false d))→pre.length+l.length≤1001→loop (liF n) (o,pre,Greader.mk ((l.map itT).flatten++q) false d)=some (o,pre++l,Greader.mk q false d)
 | [],pre,h,hl=>by
  rw [loop_eq]
  have:liF n (o,pre,Greader.mk (([].map itT).flatten++q) false d)=some (.ex (o,pre,Greader.mk q false d)):=by
   unfold liF
   show ((F_v (Greader.mk q false d)).bind _)=_
   rw [more_no hq];rfl
  rw [this,List.append_nil]
  rfl
 | k::l,pre,h,hl=>by
  obtain ⟨h1,h2,h3⟩:=h k (by simp)
  obtain ⟨b,t,h4,b1,b2,b3⟩:=itT_head h1 h2
  simp only [List.length_cons] at hl
  have nq:notb 123 ((l.map itT).flatten++q):=by
   cases l with
   | nil=>exact endq_not hq
   | cons a r =>
    obtain ⟨a1,a2,_⟩:=h a (by simp)
    obtain ⟨b',t',h5,_,_,b6⟩:=itT_head a1 a2
    simp only [List.map_cons,List.flatten_cons,h5,List.cons_append]
    exact notb_cons b6
  have e:((k::l).map itT).flatten++q=itT k++((l.map itT).flatten++q):=by simp
  rw [loop_eq,e]
  have:liF n (o,pre,Greader.mk (itT k++((l.map itT).flatten++q)) false d)=some (.nx (o,pre++[k],Greader.mk ((l.map itT).flatten++q) false d)):=by
   unfold liF
   show ((F_v (Greader.mk (itT k++((l.map itT).flatten++q)) false d)).bind _)=_
   have m:F_v (Greader.mk (itT k++((l.map itT).flatten++q)) false d)=some true:=by
    rw [h4];exact more_yes b1 b2
   rw [m,Option.bind_some]
   show ((FR_3 n (Greader.mk (itT k++((l.map itT).flatten++q)) false d)).bind _)=_
   rw [h3 _ nq (by rw [e];simp only [List.length_append] at *;omega),Option.bind_some]
   exact Ok.eq (Ok.chk (room_s (by simp;omega)) (Ok.ret rfl))
  rw [this,Option.bind_some]
  have:=li_loop hq (n:=n) (d:=d) (o:=o) l (pre++[k]) (fun a ha=>by
   obtain ⟨g1,g2,g3⟩:=h a (by simp [ha])
   exact ⟨g1,g2,fun q' n1 n2=>g3 q' n1 (by rw [e];simp only [List.length_append] at *;omega)⟩) (by simp;omega)
  rw [show pre++k::l=pre++[k]++l by simp]
  exact this
def bars (l:List GNode):Str:=(l.map fun k=>124::k.txt).flatten
theorem ls_loop {n:Nat} {q:Str} {d o:Int} (hq:q=[]∨∃t,q=41::t):∀(l pre:List GNode),(∀k∈l,∀q',endq q'→k.txt.length+q'.length≤(bars l++q).length→FR_5 n (Greader.mk (k.txt++q') false d)=some (k,Greader.mk q' false d))→pre.length+l.length≤1001→loop (lsF n) (o,pre,Greader.mk (bars l++q) false d)=some (o,pre++l,Greader.mk q false d)
 | [],pre,h,hl=>by
  rw [loop_eq]
  have nq:notb 124 q:=by
   rcases hq with rfl|⟨t,rfl⟩
   ·unfold notb;simp
   ·exact notb_cons (by decide)
  have:lsF n (o,pre,Greader.mk (bars []++q) false d)=some (.ex (o,pre,Greader.mk q false d)):=by
   unfold lsF
   show ((F_x (Greader.mk q false d)).bind _)=_
   rw [bar_no nq];rfl
  rw [this,List.append_nil]
  rfl
 | k::l,pre,h,hl=>by
  have h3:=h k (by simp)
  simp only [List.length_cons] at hl
  have nq:endq (bars l++q):=by
   cases l with
   | nil =>
    rcases hq with rfl|⟨t,rfl⟩
    ·exact .inl rfl
    ·exact .inr ⟨t,.inr rfl⟩
   | cons a r=>exact .inr ⟨a.txt++bars r++q,.inl (by simp [bars])⟩
  have e:bars (k::l)++q=124::(k.txt++(bars l++q)):=by simp [bars]
  rw [loop_eq,e]
  have:lsF n (o,pre,Greader.mk (124::(k.txt++(bars l++q))) false d)=some (.nx (o,pre++[k],Greader.mk (bars l++q) false d)):=by
   unfold lsF
   show ((F_x (Greader.mk (124::(k.txt++(bars l++q))) false d)).bind _)=_
   rw [bar_yes,Option.bind_some]
   show ((FR_5 n (Greader.mk (k.txt++(bars l++q)) false d)).bind _)=_
   rw [h3 _ nq (by rw [e];simp only [List.length_cons,List.length_append] at *;omega),Option.bind_some]
   exact Ok.eq (Ok.chk (room_s (by simp;omega)) (Ok.ret rfl))
  rw [this,Option.bind_some]
  have:=ls_loop hq (n:=n) (d:=d) (o:=o) l (pre++[k]) (fun a ha q' n1 n2=>h a (by simp [ha]) q' n1 (by rw [e];simp only [List.length_cons,List.length_append] at *;omega)) (by simp;omega)
  rw [show pre++k::l=pre++[k]++l by simp]
  exact this
structure Bk (x:GNode):Prop where
 c:∀(m:Nat) (d:Int) (q:Str),5*x.hgt≤m→0≤d→d+x.hgt≤20→(q=[]∨∃t,q=41::t)→x.txt.length+q.length≤100000000→FR_2 m (Greader.mk (x.txt++q) false d)=some (x,Greader.mk q false d)
 s:∀(m:Nat) (d:Int) (q:Str),x.Op≠3→5*x.hgt≤m+2→0≤d→d+x.hgt≤21→endq q→x.txt.length+q.length≤100000000→FR_5 m (Greader.mk (x.txt++q) false d)=some (x,Greader.mk q false d)
 i:∀(m:Nat) (d:Int) (q:Str),x.Op=1∨x.Op=4→5*x.hgt≤m+4→0≤d→d+x.hgt≤21→notb 123 q→x.txt.length+q.length≤100000000→FR_3 m (Greader.mk (x.txt++q) false d)=some (x,Greader.mk q false d)
theorem Rgt.op {x:GNode} (h:Rgt x):x.Op=1∨x.Op=2∨x.Op=3∨x.Op=4:=by
 rcases h.kinds with h|h|h|h<;>simp [h.1]
theorem Bk.it {x:GNode} (hb:Bk x) (hx:Rgt x) (ho:x.Op≠2) {m:Nat} {d:Int} {q:Str} (hm:5*x.hgt+1≤m) (hd:0≤d) (h1:d+x.hgt≤20) (hq:notb 123 q) (hl:(itT x).length+q.length≤100000000):FR_3 m (Greader.mk (itT x++q) false d)=some (x,Greader.mk q false d):=by
 unfold itT at hl ⊢
 by_cases c:x.Op=3
 ·rw [if_pos c] at hl ⊢
  obtain ⟨n,rfl⟩:∃n,m=n+1:=⟨m - 1,by omega⟩
  rw [item_eq,itA_par (hb.c n d (41::q) (by omega) hd h1 (.inr ⟨_,rfl⟩) (by simp [par] at hl ⊢;omega))]
  show itB (x,Greader.mk q false d)=_
  exact itB_no hq
 ·rw [if_neg c] at hl ⊢
  have:x.Op=1∨x.Op=4:=by have:=hx.op;omega
  exact hb.i m d q this (by omega) hd (by omega) hq hl
theorem bk:∀x:GNode,Rgt x→x.cnt≤1000→Bk x:=by
 refine GNode.ind fun x ih hx hc=>?_
 have ihk:∀k∈x.Kids,Bk k:=fun k hk=>ih k hk (hx.kid hk) (by have:=kid_cnt hk;omega)
 have hp:=hgt_pos x
 have htx:=txt_eq x
 have hlen:x.Kids.length≤1000:=by have:=kids_cnt x;omega
 have I:∀(m:Nat) (d:Int) (q:Str),x.Op=1∨x.Op=4→5*x.hgt≤m+4→0≤d→d+x.hgt≤21→notb 123 q→x.txt.length+q.length≤100000000→FR_3 m (Greader.mk (x.txt++q) false d)=some (x,Greader.mk q false d):=by
  intro m d q ho hm hd h1 hq hl
  obtain ⟨n,rfl⟩:∃n,m=n+1:=⟨m - 1,by omega⟩
  rcases ho with ho|ho
  ·rw [item_eq,itA_set hx ho]
   show itB (x,Greader.mk q false d)=_
   exact itB_no hq
  ·obtain ⟨k,h2,h3,h4,h5,h6,h7⟩:∃k,x.Kids=[k]∧0≤x.Min∧1≤x.Max∧x.Min≤x.Max∧x.Max≤64∧x.Ranges=[]:=by
    rcases hx.ok with h|⟨h,_⟩|⟨_,a,b,c1,c2,c3,c4,_⟩
    ·omega
    ·omega
    ·obtain ⟨k,hk⟩:=one_kid a
     exact ⟨k,hk,c1,c2,c3,c4,b⟩
   have hk:k∈x.Kids:=by rw [h2];simp
   have hkh:=kid_hgt hk
   rw [if_neg (by omega),if_neg (by omega),if_neg (by omega),h2] at htx
   simp only [List.map_cons,List.map_nil,List.headD_cons] at htx
   have ex:x=GNode.mk 4 [] [k] x.Min x.Max:=by
    cases x
    dsimp only at ho h2 h7
    subst ho h2 h7
    rfl
   have B:itB (k,Greader.mk ([123]++Lib.itoa x.Min++(if x.Max=x.Min then [] else [44]++Lib.itoa x.Max)++[125]++q) false d)=some (x,Greader.mk q false d):=by
    have:=itB_yes (x:=k) (mi:=x.Min) (ma:=x.Max) (q:=q) (d:=d) h3 (by omega) (by omega) h6 (by omega)
    rw [←ex] at this
    exact this
   have hq2:x.txt++q=(if k.Op=1 then k.txt else par k.txt)++([123]++Lib.itoa x.Min++(if x.Max=x.Min then [] else [44]++Lib.itoa x.Max)++[125]++q):=by
    rw [htx];simp only [repT,List.append_assoc]
   rw [hq2,item_eq]
   have ll:x.txt.length+q.length=(if k.Op=1 then k.txt else par k.txt).length+([123]++Lib.itoa x.Min++(if x.Max=x.Min then [] else [44]++Lib.itoa x.Max)++[125]++q).length:=by
    rw [←List.length_append,hq2,List.length_append]
   by_cases c:k.Op=1
   ·rw [if_pos c,itA_set (hx.kid hk) c]
    exact B
   ·rw [if_neg c] at ll ⊢
    rw [itA_par ((ihk k hk).c n d (41::_) (by omega) hd (by omega) (.inr ⟨_,rfl⟩) (by simp only [par,List.length_append,List.length_cons,List.length_nil] at ll ⊢;omega))]
    exact B
 have S:∀(m:Nat) (d:Int) (q:Str),x.Op≠3→5*x.hgt≤m+2→0≤d→d+x.hgt≤21→endq q→x.txt.length+q.length≤100000000→FR_5 m (Greader.mk (x.txt++q) false d)=some (x,Greader.mk q false d):=by
  intro m d q ho hm hd h1 hq hl
  obtain ⟨n,rfl⟩:∃n,m=n+2:=⟨m - 2,by omega⟩
  rw [sq_eq,li_eq]
  by_cases c2:x.Op=2
  ·obtain ⟨h2,h3,h4,h5,h6⟩:2≤x.Kids.length∧x.Ranges=[]∧x.Min=0∧x.Max=0∧∀k∈x.Kids,k.Op≠x.Op:=by
    rcases hx.ok with h|⟨_,h⟩|⟨h,_⟩
    ·omega
    ·exact h
    ·omega
   rw [if_neg (by omega),if_pos c2,seqT_its] at htx
   rcases hkk:x.Kids with _|⟨k,l⟩
   ·rw [hkk] at h2;simp at h2
   have ex:x=GNode.mk 2 [] (k::l) 0 0:=by
    cases x
    dsimp only at c2 h3 h4 h5 hkk
    subst c2 h3 h4 h5 hkk
    rfl
   rw [hkk] at htx
   have hmem:∀a∈k::l,a∈x.Kids:=fun a ha=>by rw [hkk];exact ha
   have rd:∀a∈k::l,∀q',notb 123 q'→(itT a).length+q'.length≤100000000→FR_3 n (Greader.mk (itT a++q') false d)=some (a,Greader.mk q' false d):=fun a ha q' g1 g2=>by
    have:=kid_hgt (hmem a ha)
    exact (ihk a (hmem a ha)).it (hx.kid (hmem a ha)) (by rw [←c2];exact h6 a (hmem a ha)) (by omega) hd (by omega) g1 g2
   have e:x.txt++q=itT k++((l.map itT).flatten++q):=by rw [htx];simp
   have el:x.txt.length=(itT k).length+((l.map itT).flatten).length:=by rw [htx];simp
   have nq:notb 123 ((l.map itT).flatten++q):=by
    cases l with
    | nil=>exact endq_not hq
    | cons a r =>
     have ha:=hmem a (by simp)
     obtain ⟨b',t',h8,_,_,b6⟩:=itT_head (hx.kid ha) (by rw [←c2];exact h6 a ha)
     simp only [List.map_cons,List.flatten_cons,h8,List.cons_append]
     exact notb_cons b6
   rw [e,rd k (by simp) _ nq (by rw [List.length_append];omega),Option.bind_some]
   rw [hkk] at hlen
   show ((loop (liF n) (2,[k],Greader.mk ((l.map itT).flatten++q) false d)).bind lend)=_
   rw [li_loop hq l [k] (fun a ha=>⟨hx.kid (hmem a (by simp [ha])),by rw [←c2];exact h6 a (hmem a (by simp [ha])),fun q' g1 g2=>rd a (by simp [ha]) q' g1 (by rw [List.length_append] at g2;omega)⟩) (by simp at hlen ⊢;omega),Option.bind_some,lend_more (by rw [hkk] at h2;simpa using h2),ex]
   rfl
  ·have:=I n d q (by have:=hx.op;omega) (by omega) hd h1 (endq_not hq) hl
   rw [this,Option.bind_some]
   show ((loop (liF n) (2,[x],Greader.mk q false d)).bind lend)=_
   have:=li_loop (n:=n) (d:=d) (o:=2) hq [] [x] (by simp) (by simp)
   simp only [List.map_nil,List.flatten_nil,List.nil_append,List.append_nil] at this
   rw [this,Option.bind_some,lend_one]
 refine ⟨?_,S,I⟩
 intro m d q hm hd h1 hq hl
 obtain ⟨n,rfl⟩:∃n,m=n+2:=⟨m - 2,by omega⟩
 have hqe:endq q:=by
  rcases hq with rfl|⟨t,rfl⟩
  ·exact .inl rfl
  ·exact .inr ⟨t,.inr rfl⟩
 have L:FR_k (n+1) (Greader.mk (x.txt++q) false (d+1)) 3=some (x,Greader.mk q false (d+1)):=by
  rw [ls_eq]
  by_cases c3:x.Op=3
  ·obtain ⟨h2,h3,h4,h5,h6⟩:2≤x.Kids.length∧x.Ranges=[]∧x.Min=0∧x.Max=0∧∀k∈x.Kids,k.Op≠x.Op:=by
    rcases hx.ok with h|⟨_,h⟩|⟨h,_⟩
    ·omega
    ·exact h
    ·omega
   rw [if_neg (by omega),if_neg (by omega),if_pos c3] at htx
   rcases hkk:x.Kids with _|⟨k,l⟩
   ·rw [hkk] at h2;simp at h2
   have ex:x=GNode.mk 3 [] (k::l) 0 0:=by
    cases x
    dsimp only at c3 h3 h4 h5 hkk
    subst c3 h3 h4 h5 hkk
    rfl
   rw [hkk] at htx
   simp only [List.map_cons,altT,barT_bars] at htx
   have htx:x.txt=k.txt++bars l:=htx
   have hmem:∀a∈k::l,a∈x.Kids:=fun a ha=>by rw [hkk];exact ha
   have rd:∀a∈k::l,∀q',endq q'→a.txt.length+q'.length≤100000000→FR_5 n (Greader.mk (a.txt++q') false (d+1))=some (a,Greader.mk q' false (d+1)):=fun a ha q' g1 g2=>by
    have:=kid_hgt (hmem a ha)
    exact (ihk a (hmem a ha)).s n (d+1) q' (by rw [←c3];exact h6 a (hmem a ha)) (by omega) (by omega) (by omega) g1 g2
   have e:x.txt++q=k.txt++(bars l++q):=by rw [htx];simp
   have el:x.txt.length=k.txt.length+(bars l).length:=by rw [htx];simp
   have nq:endq (bars l++q):=by
    cases l with
    | nil=>exact hqe
    | cons a r=>exact .inr ⟨a.txt++bars r++q,.inl (by simp [bars])⟩
   rw [e,rd k (by simp) _ nq (by rw [List.length_append];omega),Option.bind_some]
   rw [hkk] at hlen
   show ((loop (lsF n) (3,[k],Greader.mk (bars l++q) false (d+1))).bind lend)=_
   rw [ls_loop hq l [k] (fun a ha q' g1 g2=>rd a (by simp [ha]) q' g1 (by rw [List.length_append] at g2;omega)) (by simp at hlen ⊢;omega),Option.bind_some,lend_more (by rw [hkk] at h2;simpa using h2),ex]
   rfl
  ·rw [S n (d+1) q c3 (by omega) (by omega) (by omega) hqe hl,Option.bind_some]
   show ((loop (lsF n) (3,[x],Greader.mk q false (d+1))).bind lend)=_
   have:=ls_loop (n:=n) (d:=d+1) (o:=3) hq [] [x] (by simp) (by simp)
   simp only [bars,List.map_nil,List.flatten_nil,List.nil_append,List.append_nil] at this
   rw [this,Option.bind_some,lend_one]
 refine Ok.eq ?_
 rw [FR_2]
 refine Ok.chk (in64_s (by dsimp only;omega) (by dsimp only;omega)) (Ok.ite (fun f=>by have:=of_decide_eq_true f;dsimp only at this;omega) fun _=>?_)
 dsimp only
 rw [L,Option.bind_some]
 refine Ok.chk (in64_s (by dsimp only;omega) (by dsimp only;omega)) (Ok.ret ?_)
 dsimp only
 rw [show d+1 - 1=d by omega]
end Go.Ab
namespace Go.Ab
open Go.Proofs
structure Rdr (r r':Greader):Prop where
 t:r'.text_.length≤r.text_.length
 w:r.wrong_=true→r'.wrong_=true
 d:r'.deep_=r.deep_
theorem Rdr.refl (r:Greader):Rdr r r:=⟨Nat.le_refl _,id,rfl⟩
theorem Rdr.tr {a b c:Greader} (h:Rdr a b) (k:Rdr b c):Rdr a c:=⟨Nat.le_trans k.t h.t,fun x=>k.w (h.w x),by rw [k.d,h.d]⟩
theorem take_rd (r:Greader) (p:Str):Ok (F_0 r p) fun y=>Rdr r y.2∧y.2.wrong_=r.wrong_∧(y.1=true→r.text_.length=p.length+y.2.text_.length):=by
 obtain ⟨b,r',h,h1,h2,h3,h4,h5⟩:=take_any r p
 rw [h]
 exact Ok.ret ⟨⟨h3,fun x=>by rw [h1];exact x,h2⟩,h1,fun e=>by rw [h4 e];simp⟩
theorem need_rd (r:Greader) (p:Str):Ok (F_m r p) (Rdr r):=by
 unfold F_m
 refine Ok.bind (take_rd r p) fun y hy=>Ok.ite (fun _=>Ok.ret ⟨hy.1.t,fun _=>rfl,hy.1.d⟩) fun _=>Ok.ret hy.1
theorem puE_tot {s:Str} (h:s.length=2):Ok (puE s 16 8) fun _=>True:=by
 unfold puE
 refine Ok.ite (fun _=>?_) fun c=>?_
 ·split
  ·exact Ok.ret trivial
  ·exact Ok.ret trivial
 ·rw [h] at c;cases c
theorem one_rd (r:Greader):Ok (F_t r) fun y=>Rdr r y.2∧(y.2.wrong_=true∨y.2.text_.length<r.text_.length):=by
 unfold F_t
 refine Ok.bind (take_rd r [92,120]) fun y hy=>?_
 obtain ⟨h1,h2,h3⟩:=hy
 have hw:r.wrong_=true→y.2.wrong_=true:=h1.w
 refine Ok.ite (fun c=>?_) fun c=>?_
 ·have h3:=h3 c
  refine Ok.ite (fun _=>Ok.ret ⟨⟨h1.t,fun _=>rfl,h1.d⟩,.inl rfl⟩) fun c2=>?_
  have c2:=of_decide_eq_false c2
  refine Ok.chk (inc_iff.2 ⟨by omega,by omega,by omega⟩) (Ok.bind (puE_tot (by rw [List.length_take];omega)) fun z _=>?_)
  refine Ok.grp (Ok.chk (inc_iff.2 ⟨by omega,by omega,by omega⟩) (Ok.ret ⟨⟨?_,fun x=>?_,h1.d⟩,.inr ?_⟩))
  ·show (y.2.text_.drop 2).length≤_
   rw [List.length_drop];have:=h1.t;omega
  ·show (y.2.wrong_||!z.2)=true
   rw [hw x];rfl
  ·show (y.2.text_.drop 2).length<_
   rw [List.length_drop];simp at h3;omega
 ·refine Ok.ite (fun _=>Ok.ret ⟨⟨h1.t,fun _=>rfl,h1.d⟩,.inl rfl⟩) fun c2=>?_
  have c2:=of_decide_eq_false c2
  have hl:0<y.2.text_.length:=List.length_pos_iff.2 c2
  refine Ok.chk (inb_iff.2 ⟨by omega,by omega⟩) ?_
  have hi:∀s b,F_1d s b=some (Lib.indexByte s b):=fun s b=>rfl
  rw [hi,Option.bind_some]
  refine Ok.ite (fun _=>Ok.ret ⟨⟨h1.t,fun _=>rfl,h1.d⟩,.inl rfl⟩) fun c3=>Ok.chk (inb_iff.2 ⟨by omega,by omega⟩) (Ok.chk (inc_iff.2 ⟨by omega,by omega,by omega⟩) (Ok.ret ⟨⟨?_,hw,h1.d⟩,.inr ?_⟩))
  ·show (y.2.text_.drop 1).length≤_
   rw [List.length_drop];have:=h1.t;omega
  ·show (y.2.text_.drop 1).length<_
   rw [List.length_drop];have:=h1.t;omega
theorem trim_tot (s:Str):Ok (trimLI s [48,49,50,51,52,53,54,55,56,57]) fun y=>y.length≤s.length:=Ok.chk (by decide) (Ok.ret (dropWhile_le _ _))
theorem number_rd (r:Greader) (h:r.text_.length≤1000000):Ok (F_u r) fun y=>Rdr r y.2:=by
 unfold F_u
 refine Ok.bind (trim_tot r.text_) fun y hy=>Ok.chk (in64_s (by omega) (by omega)) (Ok.chk (inc_iff.2 ⟨by omega,by omega,by omega⟩) (Ok.bind (P:=fun _=>True) (Ok.chk (decide_eq_true (by rw [List.length_take];omega)) (Ok.ret trivial)) fun z _=>Ok.grp (Ok.ret ⟨hy,fun x=>?_,rfl⟩)))
 show (r.wrong_||!z.2)=true
 rw [x];rfl
def mu (r:Greader):Nat:=r.text_.length+(if r.wrong_=true then 0 else 1)
theorem set_rd (r:Greader) (h:r.text_.length≤1000000):Ok (F_12 r) fun y=>Rdr r y.2:=by
 unfold F_12
 refine Ok.bind (Ok.loop (Q:=fun y:List GRange×Greader=>Rdr r y.2) (fun x=>Rdr r x.2∧x.1.length+mu x.2≤1000001) (fun x=>mu x.2) (fun x hx=>?_) ([],r) ⟨Rdr.refl r,by show 0+mu r≤_;unfold mu;split<;>omega⟩) fun y hy=>Ok.ret hy
 obtain ⟨l,q⟩:=x
 obtain ⟨h1,h2⟩:=hx
 dsimp only at h1 h2
 unfold F_15
 refine Ok.ite (fun c=>?_) fun c=>Ok.ret h1
 have c:q.wrong_=false:=by simpa using c
 refine Ok.bind (take_rd q [93]) fun y hy=>Ok.ite (fun _=>?_) fun _=>Ok.ret (h1.tr hy.1)
 obtain ⟨y1,y2,y3⟩:=hy
 refine Ok.bind (one_rd y.2) fun z hz=>?_
 refine Ok.jn (P:=fun j:Greader×GRange=>Rdr z.2 j.1) ?_ fun j hj=>?_
 ·refine Ok.bind (take_rd z.2 [45]) fun u hu=>Ok.ite (fun _=>Ok.bind (one_rd u.2) fun v hv=>Ok.ret (hu.1.tr hv.1)) fun _=>Ok.ret hu.1
 ·have hm:mu j.1<mu q:=by
   have t1:=y1.t;have t2:=hz.1.t;have t3:=hj.t
   unfold mu
   rw [c]
   rcases hz.2 with w|w
   ·rw [hj.w w];simp;omega
   ·split<;>simp<;>omega
  refine Ok.chk (room_s (by show (l.length+1)*2≤_;unfold mu at h2;omega)) (Ok.ret ⟨⟨h1.tr (y1.tr (hz.1.tr hj)),?_⟩,hm⟩)
  show (l++[j.2]).length+mu j.1≤_
  rw [List.length_append];simp;omega
structure Gd (N:Nat) (r:Greader):Prop where
 t:r.text_.length≤N
 w:r.wrong_=false
 d0:0≤r.deep_
 d1:r.deep_≤20
structure Pst (r r':Greader):Prop where
 t:r'.text_.length≤r.text_.length
 d0:r.deep_≤r'.deep_
 d1:r'.deep_≤21
 n:r'.wrong_=false→r'.deep_=r.deep_∧r'.text_.length<r.text_.length
theorem Pst.rd {a b c:Greader} (h:Pst a b) (k:Rdr b c):Pst a c:=by
 refine ⟨Nat.le_trans k.t h.t,by rw [k.d];exact h.d0,by rw [k.d];exact h.d1,fun w=>?_⟩
 have wb:b.wrong_=false:=by
  cases e:b.wrong_ with
  | false=>rfl
  | true=>rw [k.w e] at w;cases w
 have:=h.n wb
 have:=k.t
 exact ⟨by rw [k.d];omega,by omega⟩
theorem rd_pst {a b:Greader} (h0:0≤a.deep_) (h1:a.deep_≤20) (k:Rdr a b) (s:b.wrong_=true∨b.text_.length<a.text_.length):Pst a b:=by
 refine ⟨k.t,by rw [k.d];omega,by rw [k.d];omega,fun w=>⟨k.d,?_⟩⟩
 rcases s with s|s
 ·rw [s] at w;cases w
 ·exact s
theorem item_tot {N n:Nat} (hN:N≤1000000) (hc:∀r,Gd N r→r.text_.length+1≤N→Ok (FR_2 n r) fun y=>Pst r y.2) {r:Greader} (h:Gd N r):Ok (FR_3 (n+1) r) fun y=>Pst r y.2:=by
 rw [item_eq]
 refine Ok.jn (P:=fun j:GNode×Greader=>Pst r j.2) ?_ fun j hj=>?_
 ·unfold itA
  refine Ok.bind (take_rd r [40]) fun y hy=>?_
  obtain ⟨y1,y2,y3⟩:=hy
  refine Ok.ite (fun c=>?_) fun c=>?_
  ·have y3:=y3 c
   simp at y3
   have:=h.t;have:=h.d0;have:=h.d1;have hd:=y1.d
   refine Ok.bind (hc y.2 ⟨by omega,by rw [y2];exact h.w,by omega,by omega⟩ (by omega)) fun z hz=>Ok.bind (need_rd z.2 [41]) fun u hu=>Ok.ret ?_
   have:=hz.rd hu
   show Pst r u
   refine ⟨by have:=this.t;omega,by have:=this.d0;omega,this.d1,fun w=>?_⟩
   have:=this.n w
   exact ⟨by omega,by omega⟩
  ·refine Ok.bind (take_rd y.2 [91]) fun z hz=>?_
   obtain ⟨z1,z2,z3⟩:=hz
   have r1:=y1.tr z1
   refine Ok.ite (fun c2=>?_) fun c2=>?_
   ·have z3:=z3 c2
    simp at z3
    refine Ok.bind (set_rd z.2 (by have:=r1.t;have:=h.t;omega)) fun u hu=>Ok.ret ?_
    refine rd_pst h.d0 h.d1 (r1.tr hu) (.inr ?_)
    have:=hu.t;have:=y1.t
    show u.2.text_.length<_
    omega
   ·refine Ok.bind (one_rd z.2) fun u hu=>Ok.ret ?_
    refine rd_pst h.d0 h.d1 (r1.tr hu.1) ?_
    have:=r1.t
    rcases hu.2 with e|e
    ·exact .inl e
    ·exact .inr (by show u.2.text_.length<_;omega)
 ·unfold itB
  have hb:∀q:Greader,Rdr j.2 q→q.text_.length≤1000000:=fun q hq=>by have:=hq.t;have:=hj.t;have:=h.t;omega
  refine Ok.bind (take_rd j.2 [123]) fun y hy=>Ok.ite (fun _=>?_) fun _=>Ok.ret (hj.rd hy.1)
  refine Ok.bind (number_rd y.2 (hb _ hy.1)) fun z hz=>?_
  have r1:=hy.1.tr hz
  refine Ok.bind (take_rd z.2 [44]) fun u hu=>?_
  have r2:=r1.tr hu.1
  refine Ok.ite (fun _=>?_) fun _=>Ok.bind (need_rd u.2 [125]) fun v hv=>Ok.ret (hj.rd (r2.tr hv))
  exact Ok.bind (number_rd u.2 (hb _ r2)) fun v hv=>Ok.bind (need_rd v.2 [125]) fun w hw=>Ok.ret (hj.rd (r2.tr (hv.tr hw)))
theorem more_tot (r:Greader):Ok (F_v r) fun _=>True:=by
 unfold F_v
 have hi:(r.text_=[])=False→inb 0 r.text_.length=true:=fun c=>inb_iff.2 ⟨by omega,by have:0<r.text_.length:=List.length_pos_iff.2 (by simpa using c);omega⟩
 refine Ok.jn (P:=fun b=>b=true→inb 0 r.text_.length=true) (Ok.ite (fun c=>?_) fun _=>Ok.ret fun h=>by cases h) fun b hb=>?_
 ·have:=hi (by simpa using c)
  exact Ok.chk this (Ok.ret fun _=>this)
 ·exact Ok.jn (P:=fun _=>True) (Ok.ite (fun c=>Ok.chk (hb c) (Ok.ret trivial)) fun _=>Ok.ret trivial) fun _ _=>Ok.ret trivial
theorem lend_tot {o:Int} {l:List GNode} {r:Greader} {Q:Greader→Prop} (h:Q r):Ok (lend (o,l,r)) fun y=>Q y.2:=by
 unfold lend
 refine Ok.ite (fun c=>Ok.chk (inb_iff.2 ⟨by omega,?_⟩) (Ok.ret h)) fun _=>Ok.ret h
 have c:=of_decide_eq_true c
 omega
theorem liF_tot {N n:Nat} (hN:N≤1000000) (hi:∀r,Gd N r→Ok (FR_3 n r) fun y=>Pst r y.2) {r:Greader} (h:Gd N r) (o:Int):Ok (FR_d (n+1) r o) fun y=>Pst r y.2:=by
 rw [li_eq]
 refine Ok.bind (hi r h) fun y hy=>Ok.bind (Ok.loop (Q:=fun x:Int×List GNode×Greader=>Pst r x.2.2) (fun x=>Pst r x.2.2∧x.2.1.length+mu x.2.2≤1000002) (fun x=>mu x.2.2) (fun x hx=>?_) _ ⟨hy,?_⟩) fun z hz=>lend_tot hz
 ·obtain ⟨o,l,q⟩:=x
  obtain ⟨h1,h2⟩:=hx
  dsimp only at h1 h2
  unfold liF
  refine Ok.ite (fun c=>?_) fun _=>Ok.ret h1
  have c:q.wrong_=false:=by simpa using c
  have hn:=h1.n c
  refine Ok.bind (more_tot q) fun b _=>Ok.ite (fun _=>?_) fun _=>Ok.ret h1
  have:=h.t;have:=h.d0;have:=h.d1
  refine Ok.bind (hi q ⟨by omega,c,by omega,by omega⟩) fun z hz=>?_
  have hm:mu z.2<mu q:=by
   have t1:=hz.t
   unfold mu
   rw [c]
   cases e:z.2.wrong_ with
   | true=>simp;omega
   | false=>have:=hz.n e;simp;omega
  refine Ok.chk (room_s (by show (l.length+1)*72≤_;unfold mu at h2;omega)) (Ok.ret ⟨⟨?_,?_⟩,hm⟩)
  ·exact ⟨by have:=hz.t;have:=h1.t;show z.2.text_.length≤_;omega,by have:=hz.d0;have:=h1.d0;show _≤z.2.deep_;omega,hz.d1,fun w=>by have:=hz.n w;exact ⟨by show z.2.deep_=_;omega,by show z.2.text_.length<_;omega⟩⟩
  ·show (l++[z.1]).length+mu z.2≤_
   rw [List.length_append];simp;omega
 ·show 1+mu y.2≤_
  have:=hy.t;have:=h.t
  unfold mu;split<;>omega
theorem bar_rd (r:Greader):Ok (F_x r) fun y=>Rdr r y.2∧y.2.wrong_=r.wrong_:=by
 unfold F_x
 exact Ok.bind (take_rd r [124]) fun y hy=>Ok.ret ⟨hy.1,hy.2.1⟩
theorem lsF_tot {N n:Nat} (hN:N≤1000000) (hi:∀r,Gd N r→Ok (FR_5 n r) fun y=>Pst r y.2) {r:Greader} (h:Gd N r) (o:Int):Ok (FR_k (n+1) r o) fun y=>Pst r y.2:=by
 rw [ls_eq]
 refine Ok.bind (hi r h) fun y hy=>Ok.bind (Ok.loop (Q:=fun x:Int×List GNode×Greader=>Pst r x.2.2) (fun x=>Pst r x.2.2∧x.2.1.length+mu x.2.2≤1000002) (fun x=>mu x.2.2) (fun x hx=>?_) _ ⟨hy,?_⟩) fun z hz=>lend_tot hz
 ·obtain ⟨o,l,q⟩:=x
  obtain ⟨h1,h2⟩:=hx
  dsimp only at h1 h2
  unfold lsF
  refine Ok.ite (fun c=>?_) fun _=>Ok.ret h1
  have c:q.wrong_=false:=by simpa using c
  have hn:=h1.n c
  refine Ok.bind (bar_rd q) fun b hb=>Ok.ite (fun _=>?_) fun _=>Ok.ret (h1.rd hb.1)
  have hb1:=hb.1.d;have hb2:=hb.1.t
  have:=h.t;have:=h.d0;have:=h.d1
  refine Ok.bind (hi b.2 ⟨by omega,by rw [hb.2];exact c,by omega,by omega⟩) fun z hz=>?_
  have hm:mu z.2<mu q:=by
   have t1:=hz.t
   unfold mu
   rw [c]
   cases e:z.2.wrong_ with
   | true=>simp;omega
   | false=>have:=hz.n e;simp;omega
  refine Ok.chk (room_s (by show (l.length+1)*72≤_;unfold mu at h2;omega)) (Ok.ret ⟨⟨?_,?_⟩,hm⟩)
  ·exact ⟨by have:=hz.t;have:=h1.t;show z.2.text_.length≤_;omega,by have:=hz.d0;have:=h1.d0;show _≤z.2.deep_;omega,hz.d1,fun w=>by have:=hz.n w;exact ⟨by show z.2.deep_=_;omega,by show z.2.text_.length<_;omega⟩⟩
  ·show (l++[z.1]).length+mu z.2≤_
   rw [List.length_append];simp;omega
 ·show 1+mu y.2≤_
  have:=hy.t;have:=h.t
  unfold mu;split<;>omega
theorem choice_tot:∀(N:Nat),N≤1000000→∀(m:Nat) (r:Greader),5*N+5≤m→Gd N r→Ok (FR_2 m r) fun y=>Pst r y.2:=by
 intro N
 induction N with
 | zero =>
  intro hN m r hm h
  obtain ⟨n,rfl⟩:∃n,m=n+5:=⟨m - 5,by omega⟩
  exact step 0 n (by omega) r h (fun r h1 h2=>by omega)
 | succ N ih =>
  intro hN m r hm h
  obtain ⟨n,rfl⟩:∃n,m=n+5:=⟨m - 5,by omega⟩
  exact step (N+1) n (by omega) r h (fun r h1 h2=>ih (by omega) n r (by omega) ⟨by omega,h1.w,h1.d0,h1.d1⟩)
where
 step (N n:Nat) (hN:N≤1000000) (r:Greader) (h:Gd N r) (hc:∀r,Gd N r→r.text_.length+1≤N→Ok (FR_2 n r) fun y=>Pst r y.2):Ok (FR_2 (n+5) r) fun y=>Pst r y.2:=by
  have hd0:=h.d0;have hd1:=h.d1
  rw [FR_2]
  refine Ok.chk (in64_s (by omega) (by omega)) (Ok.ite (fun c=>Ok.ret ⟨Nat.le_refl _,by show r.deep_≤r.deep_+1;omega,by show r.deep_+1≤21;omega,fun w=>by cases w⟩) fun c=>?_)
  have c:=of_decide_eq_false c
  have hq:∀q,Gd N q→Ok (FR_5 (n+3) q) fun y=>Pst q y.2:=fun q hq=>by
   rw [sq_eq]
   exact liF_tot hN (fun p hp=>item_tot hN hc hp) hq 2
  refine Ok.bind (lsF_tot hN hq (r:=Greader.mk r.text_ r.wrong_ (r.deep_+1)) ⟨h.t,h.w,by show 0≤r.deep_+1;omega,by show r.deep_+1≤20;omega⟩ 3) fun y hy=>?_
  have e0:r.deep_+1≤y.2.deep_:=hy.d0
  have e1:=hy.d1
  refine Ok.chk (in64_s (by omega) (by omega)) (Ok.ret ⟨hy.t,by show r.deep_≤y.2.deep_ - 1;omega,by show y.2.deep_ - 1≤21;omega,fun w=>?_⟩)
  have:y.2.deep_=r.deep_+1∧y.2.text_.length<r.text_.length:=hy.n w
  exact ⟨by show y.2.deep_ - 1=_;omega,this.2⟩
end Go.Ab
namespace Go.Ab
open Go.Proofs
theorem reader_mono:∀n,(∀r,Le (FR_3 n r) (FR_3 (n+1) r))∧(∀r o,Le (FR_d n r o) (FR_d (n+1) r o))∧(∀r,Le (FR_5 n r) (FR_5 (n+1) r))∧(∀r o,Le (FR_k n r o) (FR_k (n+1) r o))∧(∀r,Le (FR_2 n r) (FR_2 (n+1) r))
 | 0=>⟨fun r=>by rw [FR_3];exact Le.non,fun r o=>by rw [FR_d];exact Le.non,fun r=>by rw [FR_5];exact Le.non,fun r o=>by rw [FR_k];exact Le.non,fun r=>by rw [FR_2];exact Le.non⟩
 | n+1=>by
  obtain ⟨h1,h2,h3,h4,h5⟩:=reader_mono n
  refine ⟨fun r=>?_,fun r o=>?_,fun r=>?_,fun r o=>?_,fun r=>?_⟩
  ·rw [FR_3,FR_3]
   (repeat' (with_reducible first|exact Le.refl|assumption|exact h5 _|(refine Le.bind ?_ fun _=>?_)|(refine Le.jn ?_ fun _=>?_)|(refine Le.grp fun _=>?_)|(refine Le.chk ?_)|(refine Le.cond ?_ ?_)|(refine Le.fl (fun _=>?_) fun _=>?_)|(refine Le.sum (fun _=>?_) fun _=>?_)|(refine Le.loopL fun _=>?_)))
  ·rw [FR_d,FR_d]
   (repeat' (with_reducible first|exact Le.refl|assumption|exact h1 _|(refine Le.bind ?_ fun _=>?_)|(refine Le.jn ?_ fun _=>?_)|(refine Le.grp fun _=>?_)|(refine Le.chk ?_)|(refine Le.cond ?_ ?_)|(refine Le.fl (fun _=>?_) fun _=>?_)|(refine Le.sum (fun _=>?_) fun _=>?_)|(refine Le.loopL fun _=>?_)))
  ·rw [FR_5,FR_5]
   (repeat' (with_reducible first|exact Le.refl|assumption|exact h2 _ _|(refine Le.bind ?_ fun _=>?_)))
  ·rw [FR_k,FR_k]
   (repeat' (with_reducible first|exact Le.refl|assumption|exact h3 _|(refine Le.bind ?_ fun _=>?_)|(refine Le.jn ?_ fun _=>?_)|(refine Le.grp fun _=>?_)|(refine Le.chk ?_)|(refine Le.cond ?_ ?_)|(refine Le.fl (fun _=>?_) fun _=>?_)|(refine Le.sum (fun _=>?_) fun _=>?_)|(refine Le.loopL fun _=>?_)))
  ·rw [FR_2,FR_2]
   (repeat' (with_reducible first|exact Le.refl|assumption|exact h4 _ _|(refine Le.bind ?_ fun _=>?_)|(refine Le.jn ?_ fun _=>?_)|(refine Le.grp fun _=>?_)|(refine Le.chk ?_)|(refine Le.cond ?_ ?_)))
theorem choice_any {s:Str} (h:s.length≤100000):Ok (F_2 (Greader.mk s false 0)) fun _=>True :=
 Ok.mono (Ok.lim (f:=fun n=>FR_2 n (Greader.mk s false 0)) (fun n=>(reader_mono n).2.2.2.2 _) _ (choice_tot s.length (by omega) _ _ (Nat.le_refl _) ⟨Nat.le_refl _,rfl,Int.le_refl 0,by show (0:Int)≤20;decide⟩)) fun _ _=>trivial
theorem choice_back {x:GNode} (hx:PV x):F_2 (Greader.mk x.txt false 0)=some (x,Greader.mk [] false 0):=by
 have hl:=txt_len x hx.rgt
 have hc:=hx.cnt
 have hh:=hx.hgt
 refine lim_of ⟨5*x.hgt,fun m hm=>?_⟩
 have:=(bk x hx.rgt (by omega)).c m 0 [] hm (Int.le_refl 0) (by omega) (.inl rfl) (by simp;omega)
 simpa using this
open Classical in
theorem ptext_eq (x:GNode):F_18 x=some (if PV x then (x.txt,0) else ([],x.err)):=by
 unfold F_18
 rw [valid_eq]
 simp only [Option.bind_some]
 by_cases c:PV x
 ·rw [err_zero.2 c,if_pos c,pwrite_eq c.rgt (by have:=c.cnt;omega)]
  rfl
 ·have:¬x.err=0:=fun h=>c (err_zero.1 h)
  rw [decide_eq_false this,if_neg c]
  rfl
open Classical in
theorem rtext_eq (x:GNode):F_1e x=some (if PV x then (x.txt,0) else ([],x.err)):=by
 obtain ⟨v,h1,h2⟩:=text_same x
 rw [ptext_eq] at h1
 rw [h2,h1]
def Tx (s:Str) (y:GNode×Int):Prop:=(∃x,PV x∧x.txt=s∧y=(x,0))∨((¬∃x,PV x∧x.txt=s)∧y=(GNode.mk 0 [] [] 0 0,4))
theorem Tx.one {s:Str} {a b:GNode×Int} {c:Str→GNode×Int} (inj:∀x y:GNode,PV x→PV y→x.txt=y.txt→x=y) (h:Tx s a) (k:Tx s b):a=b:=by
 rcases h with ⟨x,h1,h2,rfl⟩|⟨h1,rfl⟩<;>rcases k with ⟨y,k1,k2,rfl⟩|⟨k1,rfl⟩
 ·rw [inj x y h1 k1 (by rw [h2,k2])]
 ·exact absurd ⟨x,h1,h2⟩ k1
 ·exact absurd ⟨y,k1,k2⟩ h1
 ·rfl
theorem txt_inj {x y:GNode} (hx:PV x) (hy:PV y) (h:x.txt=y.txt):x=y:=by
 have h1:=choice_back hx
 rw [h,choice_back hy] at h1
 have:=congrArg Prod.fst (Option.some.inj h1)
 exact this.symm
theorem pparse {s:Str} (hs:s.length≤4000):Ok (F_1a s) (Tx s):=by
 unfold F_1a
 refine Ok.ite (fun c=>by have:=of_decide_eq_true c;omega) fun _=>?_
 suffices h:Ok (F_1i s) (Tx s) from Ok.bind h fun y hy=>Ok.ret hy
 unfold F_1i
 by_cases c:∃x,PV x∧x.txt=s
 ·obtain ⟨x,hx,rfl⟩:=c
  rw [choice_back hx,Option.bind_some,ptext_eq,if_pos hx,Option.bind_some]
  refine Ok.grp (Ok.grp (Ok.grp (Ok.ite (fun f=>by simp at f) fun _=>Ok.ret (.inl ⟨x,hx,rfl,rfl⟩))))
 ·refine Ok.bind (choice_any (s:=s) (by omega)) fun y _=>?_
  rw [ptext_eq,Option.bind_some]
  refine Ok.grp (Ok.grp (Ok.grp (Ok.ite (fun _=>Ok.ret (.inr ⟨c,rfl⟩)) fun f=>?_)))
  by_cases hv:PV y.1
  ·rw [if_pos hv] at f
   simp at f
   exact absurd ⟨y.1,hv,f.2⟩ c
  ·rw [if_neg hv] at f
   simp at f
   exact absurd (err_zero.1 f.1.2) hv
end Go.Ab
namespace Go.Ab
open Go.Proofs
def ps (pre q:Str):Gparser:=Gparser.mk (pre++q) (pre.length:Int) false
theorem peek_nil (pre:Str):F_1 (ps pre [])=some 0:=by
 refine Ok.eq ?_
 unfold F_1 ps
 exact Ok.ite (fun _=>Ok.ret rfl) fun f=>by simp at f
theorem getD_app (pre q:Str) (b:UInt8):(pre++b::q).getD pre.length 0=b:=by simp
theorem peek_cons (pre q:Str) (b:UInt8):F_1 (ps pre (b::q))=some b:=by
 refine Ok.eq ?_
 unfold F_1 ps
 refine Ok.ite (fun f=>by simp at f;omega) fun _=>Ok.chk (inb_iff.2 ⟨by dsimp only;omega,by simp<;>omega⟩) (Ok.ret ?_)
 dsimp only
 rw [Int.toNat_natCast,getD_app]
theorem ps_step (pre q:Str) (b:UInt8):Gparser.mk (ps pre (b::q)).s_ ((ps pre (b::q)).at_+1) (ps pre (b::q)).bad_=ps (pre++[b]) q:=by
 unfold ps;simp
theorem ps_step' (pre q:Str) (b:UInt8) (w:Bool) (h:w=false):Gparser.mk (ps pre (b::q)).s_ ((ps pre (b::q)).at_+1) w=ps (pre++[b]) q:=by
 subst h;unfold ps;simp
theorem ps_in {pre q:Str} (h:pre.length+q.length≤100000000):in64 ((ps pre q).at_+1)=true:=in64_s (by show -1000000000000000≤(pre.length:Int)+1;omega) (by show (pre.length:Int)+1≤_;omega)
def digV (x:Int) (d:UInt8):Option Int :=
 bif decide (48≤(d.toNat:Int))&&decide ((d.toNat:Int)≤57) then some (bits .or .i64 (IntKind.wrap .i64 (x*2^4)) ((u8 ((d.toNat:Int) - 48)).toNat:Int))
 else bif decide (97≤(d.toNat:Int))&&decide ((d.toNat:Int)≤102) then chk (in64 ((bits .or .i64 (IntKind.wrap .i64 (x*2^4)) ((u8 ((d.toNat:Int) - 97)).toNat:Int))+10)) (some ((bits .or .i64 (IntKind.wrap .i64 (x*2^4)) ((u8 ((d.toNat:Int) - 97)).toNat:Int))+10)) else none
def hexC (i:Nat):Bool:=match F_c (UInt8.ofNat i) with
 | some [_,_,h,l]=>(match digV 0 h with
  | some x=>(match digV x l with
   | some y=>decide (u8 y=UInt8.ofNat i)
   | none=>false)
  | none=>false)
 | _=>true
theorem hexC_all:(List.range 256).all hexC=true:=by kernel_rfl
theorem hex_back {c h l a b:UInt8} (hs:F_c c=some [a,b,h,l]):∃x y,digV 0 h=some x∧digV x l=some y∧u8 y=c:=by
 have hc:=List.all_eq_true.1 hexC_all c.toNat (List.mem_range.2 c.toNat_lt)
 unfold hexC at hc
 rw [show UInt8.ofNat c.toNat=c from by simp,hs] at hc
 dsimp only at hc
 cases h1:digV 0 h with
 | none=>rw [h1] at hc;cases hc
 | some x =>
  rw [h1] at hc
  dsimp only at hc
  cases h2:digV x l with
  | none=>rw [h2] at hc;cases hc
  | some y=>rw [h2] at hc;exact ⟨x,y,rfl,h2,of_decide_eq_true hc⟩
theorem char_step {x y i:Int} {p:Gparser} {d:UInt8} (hi:i≤2) (h0:0≤i) (hb:inb (p.at_+i) p.s_.length=true) (hl:p.s_.length≤100000000) (hg:p.s_.getD (p.at_+i).toNat 0=d) (hd:digV x d=some y):F_17 (x,i,p)=some (.nx (y,i+1,p)):=by
 have hbb:=inb_iff.1 hb
 refine Ok.eq ?_
 unfold F_17
 refine Ok.ite (fun _=>?_) fun f=>by have:=of_decide_eq_false f;dsimp only at this;omega
 refine Ok.jn (P:=(·=(y,p))) ?_ fun j hj=>?_
 ·refine Ok.chk (in64_s (by dsimp only;omega) (by dsimp only;omega)) (Ok.chk hb ?_)
  dsimp only
  rw [hg]
  unfold digV at hd
  refine Ok.grp (Ok.ite (fun c=>?_) fun c=>?_)
  ·rw [c] at hd
   cases hd
   exact Ok.ret rfl
  ·rw [c] at hd
   refine Ok.grp (Ok.ite (fun c2=>?_) fun c2=>?_)
   ·rw [c2] at hd
    simp only [cond_false,cond_true] at hd
    show Ok (chk _ _) _
    unfold chk at hd ⊢
    generalize in64 _=w at hd ⊢
    cases w with
    | false=>cases hd
    | true =>
     have e:=Option.some.inj hd
     exact Ok.ret (by rw [←e])
   ·rw [c2] at hd;cases hd
 ·subst hj
  exact Ok.chk (in64_s (by dsimp only;omega) (by dsimp only;omega)) (Ok.ret rfl)
theorem char_end {x i:Int} {p:Gparser} (hi:2<i):F_17 (x,i,p)=some (.ex (x,p)):=by
 unfold F_17
 have:decide (i≤2)=false:=decide_eq_false (by omega)
 dsimp only
 rw [this];rfl
theorem char_back {c:UInt8} {pre q:Str} (hl:(pre++sgR c++q).length≤100000000):F_14 (ps pre (sgR c++q))=some (c,ps (pre++sgR c) q):=by
 have hs:=sgR_eq c
 rcases sgn_two c with ⟨h,h2⟩|⟨a,b,h,h2⟩
 ·rw [h] at hs
  rw [←Option.some.inj hs] at hl ⊢
  have hne:c≠92:=by rintro rfl;revert h2;decide
  refine Ok.eq ?_
  unfold F_14
  show Ok ((F_1 (ps pre (c::q))).bind _) _
  rw [peek_cons,Option.bind_some]
  refine Ok.chk (ps_in (by simp at hl ⊢;omega)) (Ok.ite (fun _=>Ok.ret ?_) fun f=>?_)
  ·show (c,Gparser.mk _ _ _)=_
   rw [show [c]++q=c::q from rfl,ps_step]
  ·exfalso
   have:decide ((c.toNat:Int)=92)=false:=decide_eq_false fun e=>hne (UInt8.toNat_inj.1 (by show c.toNat=92;omega))
   rw [this] at f;cases f
 ·rw [h] at hs
  rw [←Option.some.inj hs] at hl ⊢
  obtain ⟨x,y,d1,d2,d3⟩:=hex_back h
  simp only [List.length_append,List.length_cons,List.length_nil] at hl
  have hat:(ps pre ([92,120,a,b]++q)).at_=(pre.length:Int):=rfl
  have hsl:(ps pre ([92,120,a,b]++q)).s_.length=pre.length+(q.length+4):=by show (pre++([92,120,a,b]++q)).length=_;simp<;>omega
  have e1:((pre++([92,120,a,b]++q)).getD ((pre.length:Int)+1).toNat 0)=120:=by
   rw [show ((pre.length:Int)+1).toNat=pre.length+1 by omega,show pre++([92,120,a,b]++q)=(pre++[92])++120::([a,b]++q) by simp]
   rw [show pre.length+1=(pre++[92]).length by simp,getD_app]
  have e2:((pre++([92,120,a,b]++q)).getD ((pre.length:Int)+1+1).toNat 0)=a:=by
   rw [show ((pre.length:Int)+1+1).toNat=pre.length+2 by omega,show pre++([92,120,a,b]++q)=(pre++[92,120])++a::([b]++q) by simp]
   rw [show pre.length+2=(pre++[92,120]).length by simp,getD_app]
  have e3:((pre++([92,120,a,b]++q)).getD ((pre.length:Int)+1+2).toNat 0)=b:=by
   rw [show ((pre.length:Int)+1+2).toNat=pre.length+3 by omega,show pre++([92,120,a,b]++q)=(pre++[92,120,a])++b::q by simp]
   rw [show pre.length+3=(pre++[92,120,a]).length by simp,getD_app]
  refine Ok.eq ?_
  unfold F_14
  show Ok ((F_1 (ps pre (92::([120,a,b]++q)))).bind _) _
  rw [peek_cons,Option.bind_some]
  rw [hat]
  refine Ok.chk (in64_s (by omega) (by omega)) (Ok.ite (fun f=>by simp at f) fun _=>Ok.chk (in64_s (by omega) (by omega)) (Ok.ite (fun f=>by have:=of_decide_eq_true f;rw [hsl] at this;omega) fun _=>Ok.chk (inb_iff.2 ⟨by omega,by rw [hsl];omega⟩) (Ok.ite (fun f=>?_) fun _=>?_)))
  ·exfalso
   have e:(ps pre ([92,120,a,b]++q)).s_.getD ((pre.length:Int)+1).toNat 0=120:=e1
   rw [e] at f;cases f
  ·generalize hp:Gparser.mk (ps pre ([92,120,a,b]++q)).s_ ((pre.length:Int)+1) (ps pre ([92,120,a,b]++q)).bad_=p
   have pa:p.at_=(pre.length:Int)+1:=by rw [←hp]
   have pS:p.s_=pre++([92,120,a,b]++q):=by rw [←hp];rfl
   have pl:p.s_.length=pre.length+(q.length+4):=by rw [←hp];exact hsl
   have L:loop F_17 (0,1,p)=some (y,p):=by
    rw [loop_eq,char_step (y:=x) (d:=a) (by omega) (by omega) (inb_iff.2 ⟨by omega,by omega⟩) (by omega) (by rw [pa,pS];exact e2) d1]
    show loop F_17 (x,1+1,p)=_
    rw [loop_eq,char_step (y:=y) (d:=b) (by omega) (by omega) (inb_iff.2 ⟨by omega,by omega⟩) (by omega) (by rw [pa,pS];exact e3) d2]
    show loop F_17 (y,1+1+1,p)=_
    rw [loop_eq,char_end (by omega)]
    rfl
   rw [L,Option.bind_some]
   refine Ok.chk (in64_s (by dsimp only;omega) (by dsimp only;omega)) (Ok.ret ?_)
   dsimp only
   rw [d3,←hp]
   show (c,Gparser.mk (pre++([92,120,a,b]++q)) ((pre.length:Int)+1+3) false)=(c,ps (pre++[92,120,a,b]) q)
   unfold ps
   simp [Int.add_assoc]
end Go.Ab
namespace Go.Ab
open Go.Proofs
theorem byte_ne {a b:UInt8} (h:a≠b):decide ((a.toNat:Int)=(b.toNat:Int))=false:=decide_eq_false fun e=>h (UInt8.toNat_inj.1 (by omega))
theorem peek_any (pre q:Str):∃b,F_1 (ps pre q)=some b∧((q=[]∧b=0)∨∃t,q=b::t):=by
 cases q with
 | nil=>exact ⟨0,peek_nil pre,.inl ⟨rfl,rfl⟩⟩
 | cons b t=>exact ⟨b,peek_cons pre t b,.inr ⟨t,rfl⟩⟩
theorem peek_ne {pre q:Str} {c:UInt8} (hc:c≠0) (h:notb c q):∃b,F_1 (ps pre q)=some b∧b≠c:=by
 obtain ⟨b,h1,h2⟩:=peek_any pre q
 refine ⟨b,h1,?_⟩
 rcases h2 with ⟨_,rfl⟩|⟨t,rfl⟩
 ·exact fun e=>hc e.symm
 ·rintro rfl;exact h rfl
theorem rset_step {r:GRange} {l done:List GRange} {pre q:Str} (hl:done.length≤1000) (hn:(pre++(setBR (r::l)++[93]++q)).length≤100000000) :
  F_1b (done,ps pre (setBR (r::l)++[93]++q))=some (.nx (done++[r],ps (pre++rTR r) (setBR l++[93]++q))):=by
 have e1:setBR (r::l)++[93]++q=sgR r.Low++((if (r.High.toNat:Int)=r.Low.toNat then [] else [45]++sgR r.High)++(setBR l++[93]++q)):=by simp [setBR,rTR]
 rw [e1] at hn ⊢
 obtain ⟨b,t,hs,hb⟩:=sgn_head r.Low
 have hsR:sgR r.Low=b::t:=by unfold sgR;rw [hs];rfl
 refine Ok.eq ?_
 unfold F_1b
 dsimp only
 have pk:F_1 (ps pre (sgR r.Low++((if (r.High.toNat:Int)=r.Low.toNat then [] else [45]++sgR r.High)++(setBR l++[93]++q))))=some b:=by
  rw [hsR];exact peek_cons _ _ _
 rw [pk,Option.bind_some]
 have nb:decide ((b.toNat:Int)=93)=false:=byte_ne (b:=93) fun e=>hb (by rw [e];decide)
 refine Ok.grp (Ok.ite (fun _=>Ok.ite (fun f=>?_) fun _=>?_) fun f=>?_)
 ·exfalso
  have f:=of_decide_eq_true f
  unfold ps at f
  rw [hsR] at f
  simp at f
  omega
 ·rw [char_back (by simpa using hn),Option.bind_some]
  refine Ok.jn (P:=fun j=>j=(r.High,ps (pre++rTR r) (setBR l++[93]++q))) ?_ fun j hj=>?_
  ·dsimp only
   by_cases c:(r.High.toNat:Int)=r.Low.toNat
   ·rw [if_pos c,List.nil_append]
    obtain ⟨b,t,h,hb⟩:=setBR_next l q
    have e:rTR r=sgR r.Low:=by unfold rTR;rw [if_pos c,List.append_nil]
    have nb2:decide ((b.toNat:Int)=45)=false:=byte_ne (b:=45) hb
    rw [e,h,peek_cons,Option.bind_some,nb2]
    refine Ok.ite (fun f=>by cases f) fun _=>Ok.ret ?_
    have:r.High=r.Low:=UInt8.toNat_inj.1 (by omega)
    rw [this]
   ·rw [if_neg c]
    rw [if_neg c] at hn
    have e:rTR r=sgR r.Low++([45]++sgR r.High):=by unfold rTR;rw [if_neg c]
    have e2:[45]++sgR r.High++(setBR l++[93]++q)=45::(sgR r.High++(setBR l++[93]++q)):=by simp
    rw [e2,peek_cons,Option.bind_some]
    refine Ok.ite (fun _=>Ok.chk (ps_in (by simp at hn ⊢;omega)) ?_) fun f=>by cases f
    rw [ps_step,char_back (by simp at hn ⊢;omega),Option.bind_some]
    refine Ok.ret ?_
    rw [e];simp
  ·subst hj
   exact Ok.chk (room_s (by simp;omega)) (Ok.ret rfl)
 ·rw [nb] at f
  cases f
theorem rset_loop {q:Str}:∀(l done:List GRange) (pre:Str),done.length+l.length≤1000→(pre++(setBR l++[93]++q)).length≤100000000→loop F_1b (done,ps pre (setBR l++[93]++q))=some (.inl (done++l,ps (pre++setBR l) ([93]++q)))
 | [],done,pre,hl,hn=>by
  rw [loop_eq]
  have:F_1b (done,ps pre ([]++[93]++q))=some (.ex (.inl (done,ps pre ([93]++q)))):=by
   unfold F_1b
   show ((F_1 (ps pre (93::q))).bind _)=_
   rw [peek_cons];rfl
  show ((F_1b (done,ps pre ([]++[93]++q))).bind _)=_
  rw [this]
  simp only [setBR,List.append_nil];rfl
 | r::l,done,pre,hl,hn=>by
  simp only [List.length_cons] at hl
  rw [loop_eq,rset_step (by omega) hn,Option.bind_some]
  have:=rset_loop (q:=q) l (done++[r]) (pre++rTR r) (by simp;omega) (by simp only [setBR,List.append_assoc] at hn ⊢;exact hn)
  show loop F_1b (done++[r],ps (pre++rTR r) (setBR l++[93]++q))=_
  rw [this]
  simp [setBR]
theorem rset_back {q pre:Str} {l:List GRange} (hl:l.length≤1000) (hn:(pre++(setBR l++[93]++q)).length≤100000000):F_1k (ps pre (setBR l++[93]++q))=some (GNode.mk 1 l [] 0 0,ps (pre++setBR l++[93]) q):=by
 refine Ok.eq ?_
 unfold F_1k
 rw [rset_loop l [] pre (by simpa using hl) hn,Option.bind_some]
 have:[93]++q=93::q:=rfl
 rw [Sum_inl,this]
 refine Ok.chk (ps_in (by simp at hn ⊢;omega)) (Ok.ret ?_)
 dsimp only
 rw [ps_step,List.nil_append]
def dig1 (d:UInt8):Bool:=decide (48≤(d.toNat:Int))&&decide ((d.toNat:Int)≤57)
def dv (d:UInt8):Int:=((u8 ((d.toNat:Int) - 48)).toNat:Int)
def itoC (i:Nat):Bool:=match Lib.itoa (i:Int) with
 | [d]=>dig1 d&&decide (dv d=(i:Int))&&decide (dv d≤9)
 | [d,e]=>dig1 d&&dig1 e&&decide (dv d*10+dv e=(i:Int))&&decide (dv d≤9)&&decide (dv e≤9)
 | _=>false
theorem itoC_all:(List.range 65).all itoC=true:=by kernel_rfl
theorem dv_nn (d:UInt8):0≤dv d:=by unfold dv;omega
theorem times_step {p0:Gparser} {pre q:Str} {d:UInt8} {n:Int} (hd:dig1 d=true) (hv:dv d≤9) (hn:0≤n) (hn2:n≤100) (h0:0≤p0.at_) (h1:p0.at_≤100000000) (hp:pre.length<p0.at_+3) :
  F_y p0 (n,ps pre (d::q))=some (.nx (n*10+dv d,ps (pre++[d]) q)):=by
 have hdd:decide (48≤(d.toNat:Int))=true∧decide ((d.toNat:Int)≤57)=true:=by
  unfold dig1 at hd;simpa using hd
 have:=dv_nn d
 refine Ok.eq ?_
 unfold F_y
 dsimp only
 rw [peek_cons,Option.bind_some]
 refine Ok.ite (fun _=>?_) fun f=>by rw [hdd.1] at f;cases f
 rw [Option.bind_some]
 refine Ok.ite (fun _=>?_) fun f=>by rw [hdd.2] at f;cases f
 refine Ok.chk (in64_s (by omega) (by omega)) (Ok.ite (fun _=>?_) fun f=>by have f:=of_decide_eq_false f;exact absurd hp f)
 refine Ok.chk (in64_s (by omega) (by omega)) ?_
 rw [Option.bind_some]
 refine Ok.chk (in64_s (by show -1000000000000000≤n*10+dv d;omega) (by show n*10+dv d≤_;omega)) (Ok.chk (in64_s (by show -1000000000000000≤(pre.length:Int)+1;omega) (by show (pre.length:Int)+1≤_;omega)) (Ok.ret ?_))
 rw [ps_step];rfl
theorem times_end {p0:Gparser} {pre q:Str} {b:UInt8} {n:Int} (hb:dig1 b=false):F_y p0 (n,ps pre (b::q))=some (.ex (n,ps pre (b::q))):=by
 unfold F_y
 dsimp only
 rw [peek_cons,Option.bind_some]
 unfold dig1 at hb
 cases h:decide (48≤(b.toNat:Int)) with
 | false=>rfl
 | true =>
  rw [h,Bool.true_and] at hb
  rw [Option.bind_some,hb];rfl
theorem times_back {n:Int} (h0:0≤n) (h1:n≤64) {b:UInt8} {pre q:Str} (hb:dig1 b=false) (hq:pre.length≤100000000):F_1f (ps pre (Lib.itoa n++b::q))=some (n,ps (pre++Lib.itoa n) (b::q)):=by
 obtain ⟨k,rfl⟩:=Int.eq_ofNat_of_zero_le h0
 have h:=List.all_eq_true.1 itoC_all k (List.mem_range.2 (by omega))
 unfold itoC at h
 refine Ok.eq ?_
 unfold F_1f
 have at0:∀q,(ps pre q).at_=(pre.length:Int):=fun q=>rfl
 match hi:Lib.itoa (k:Int) with
 | [d] =>
  rw [hi] at h
  simp only [Bool.and_eq_true,decide_eq_true_eq] at h
  obtain ⟨⟨d1,d2⟩,d3⟩:=h
  have L:loop (F_y (ps pre ([d]++b::q))) (0,ps pre ([d]++b::q))=some ((k:Int),ps (pre++[d]) (b::q)):=by
   rw [loop_eq]
   show ((F_y (ps pre ([d]++b::q)) (0,ps pre (d::(b::q)))).bind _)=_
   rw [times_step d1 d3 (by omega) (by omega) (by rw [at0];omega) (by rw [at0];omega) (by rw [at0];omega)]
   show loop (F_y _) (0*10+dv d,ps (pre++[d]) (b::q))=_
   rw [loop_eq,times_end hb]
   show some (0*10+dv d,_)=_
   rw [d2];simp
  rw [L,Option.bind_some]
  refine Ok.grp (Ok.ret ?_)
  dsimp only
  have:decide ((ps (pre++[d]) (b::q)).at_=(ps pre ([d]++b::q)).at_)=false:=decide_eq_false (by unfold ps;simp<;>omega)
  rw [this];rfl
 | [d,e] =>
  rw [hi] at h
  simp only [Bool.and_eq_true,decide_eq_true_eq] at h
  obtain ⟨⟨⟨⟨d1,d2⟩,d3⟩,d4⟩,d5⟩:=h
  have n1:=dv_nn d;have n2:=dv_nn e
  have L:loop (F_y (ps pre ([d,e]++b::q))) (0,ps pre ([d,e]++b::q))=some ((k:Int),ps (pre++[d,e]) (b::q)):=by
   rw [loop_eq]
   show ((F_y (ps pre ([d,e]++b::q)) (0,ps pre (d::(e::b::q)))).bind _)=_
   rw [times_step d1 d4 (by omega) (by omega) (by rw [at0];omega) (by rw [at0];omega) (by rw [at0];omega)]
   show loop (F_y _) (0*10+dv d,ps (pre++[d]) (e::b::q))=_
   rw [loop_eq,times_step d2 d5 (by omega) (by omega) (by rw [at0];omega) (by rw [at0];omega) (by rw [at0];simp<;>omega)]
   show loop (F_y _) ((0*10+dv d)*10+dv e,ps (pre++[d]++[e]) (b::q))=_
   rw [loop_eq,times_end hb]
   show some ((0*10+dv d)*10+dv e,_)=_
   rw [show (0*10+dv d)*10+dv e=(k:Int) by omega];simp
  rw [L,Option.bind_some]
  refine Ok.grp (Ok.ret ?_)
  dsimp only
  have:decide ((ps (pre++[d,e]) (b::q)).at_=(ps pre ([d,e]++b::q)).at_)=false:=decide_eq_false (by unfold ps;simp<;>omega)
  rw [this];rfl
 | []=>rw [hi] at h;cases h
 | _::_::_::_=>rw [hi] at h;cases h
end Go.Ab
namespace Go.Ab
open Go.Proofs
theorem ratom_set {x:GNode} (hx:Rgt x) (ho:x.Op=1) {n:Nat} {pre q:Str} (hn:(pre++(x.txt++q)).length≤100000000):FR_b (n+1) (ps pre (x.txt++q))=some (x,ps (pre++x.txt) q):=by
 have hk:rngP x.Ranges∧x.Ranges≠[]∧x.Kids=[]∧x.Min=0∧x.Max=0:=by
  rcases hx.ok with h|⟨h,_⟩|⟨h,_⟩
  ·exact h.2
  ·omega
  ·omega
 obtain ⟨h1,h2,h3,h4,h5⟩:=hk
 have ht:x.txt=setT x.Ranges:=by rw [txt_eq,if_pos ho]
 have hl:=rng_len h1
 cases x with|mk o rs ks mi ma=>?_
 dsimp only at ho h1 h2 h3 h4 h5 ht hl
 subst ho h3 h4 h5
 rw [ht] at hn ⊢
 unfold setT at hn ⊢
 refine Ok.eq ?_
 rw [FR_b]
 by_cases c:rs.length=1∧((rs.getD 0 default).Low.toNat:Int)=(rs.getD 0 default).High.toNat
 ·rw [if_pos c] at hn ⊢
  obtain ⟨r,rfl⟩:=List.length_eq_one_iff.1 c.1
  have e:r=GRange.mk r.Low r.Low:=by
   have:=toNat_inj' c.2
   cases r
   simp at this
   simp [this]
  have hn:(pre++(sgR r.Low++q)).length≤100000000:=hn
  have es:sgn (([r]:List GRange).getD 0 default).Low=sgR r.Low:=rfl
  rw [es]
  obtain ⟨b,t,hs,hb⟩:=sgn_head r.Low
  have hsR:sgR r.Low=b::t:=by unfold sgR;rw [hs];rfl
  have pk:F_1 (ps pre (sgR r.Low++q))=some b:=by rw [hsR];exact peek_cons _ _ _
  have n1:decide ((b.toNat:Int)=91)=false:=byte_ne (b:=91) fun e=>hb (by rw [e];decide)
  have n2:decide ((b.toNat:Int)=40)=false:=byte_ne (b:=40) fun e=>hb (by rw [e];decide)
  rw [pk,Option.bind_some,n1,n2]
  refine Ok.ite (fun f=>by cases f) fun _=>Ok.ite (fun f=>by cases f) fun _=>?_
  rw [char_back (by simpa using hn),Option.bind_some]
  refine Ok.ret ?_
  dsimp only
  rw [←e]
 ·rw [if_neg c,setB_R] at hn ⊢
  have e:[91]++setBR rs++[93]++q=91::(setBR rs++[93]++q):=by simp
  rw [e] at hn ⊢
  rw [peek_cons,Option.bind_some]
  refine Ok.ite (fun _=>Ok.chk (ps_in (by simp at hn ⊢;omega)) ?_) fun f=>by cases f
  rw [ps_step,rset_back (by omega) (by simp at hn ⊢;omega),Option.bind_some]
  refine Ok.ret ?_
  simp
theorem ratom_par {x:GNode} {n:Nat} {pre q:Str} (hn:(pre++(par x.txt++q)).length≤100000000) (hc:FR_4 n (ps (pre++[40]) (x.txt++41::q))=some (x,ps (pre++[40]++x.txt) (41::q))):FR_b (n+1) (ps pre (par x.txt++q))=some (x,ps (pre++par x.txt) q):=by
 have e:par x.txt++q=40::(x.txt++41::q):=by simp [par]
 refine Ok.eq ?_
 rw [FR_b,e]
 rw [e] at hn
 rw [peek_cons,Option.bind_some]
 refine Ok.ite (fun f=>by cases f) fun _=>Ok.ite (fun _=>Ok.chk (ps_in (by simp at hn ⊢;omega)) ?_) fun f=>by cases f
 rw [ps_step,hc,Option.bind_some]
 refine Ok.jn (P:=fun j=>j=false) (Ok.ite (fun f=>by cases f) fun _=>?_) fun j hj=>?_
 ·dsimp only
  rw [peek_cons]
  exact Ok.ret rfl
 ·subst hj
  refine Ok.chk (ps_in (by simp at hn ⊢;omega)) (Ok.ret ?_)
  dsimp only
  rw [ps_step' _ _ _ _ rfl]
  simp [par]
theorem ritem_no {n:Nat} {P:Gparser} {x:GNode} {pre q:Str} (ha:FR_b n P=some (x,ps pre q)) (hq:notb 123 q):FR_6 (n+1) P=some (x,ps pre q):=by
 obtain ⟨b,h1,h2⟩:=peek_ne (pre:=pre) (c:=123) (by decide) hq
 have n1:decide ((b.toNat:Int)=123)=false:=byte_ne (b:=123) h2
 refine Ok.eq ?_
 rw [FR_6,ha,Option.bind_some]
 dsimp only
 rw [h1,Option.bind_some,n1]
 exact Ok.ite (fun _=>Ok.ret rfl) fun f=>by cases f
def repS (mi ma:Int):Str:=[123]++Lib.itoa mi++(if ma=mi then [] else [44]++Lib.itoa ma)++[125]
theorem ritem_yes {n:Nat} {P:Gparser} {x:GNode} {pre q:Str} {mi ma:Int} (ha:FR_b n P=some (x,ps pre (repS mi ma++q))) (h1:0≤mi) (h2:mi≤64) (h3:0≤ma) (h4:ma≤64) (hn:(pre++(repS mi ma++q)).length≤90000000) :
  FR_6 (n+1) P=some (GNode.mk 4 [] [x] mi ma,ps (pre++repS mi ma) q):=by
 refine Ok.eq ?_
 rw [FR_6,ha,Option.bind_some]
 dsimp only
 by_cases c:ma=mi
 ·subst c
  have e:repS ma ma=123::(Lib.itoa ma++[125]):=by simp [repS]
  rw [e] at hn ⊢
  have e2:123::(Lib.itoa ma++[125])++q=123::(Lib.itoa ma++125::q):=by simp
  rw [e2] at hn ⊢
  simp only [List.length_append,List.length_cons] at hn
  rw [peek_cons,Option.bind_some]
  refine Ok.ite (fun f=>by cases f) fun _=>Ok.chk (ps_in (by simp;omega)) ?_
  rw [ps_step,times_back h1 h2 (by decide) (by simp;omega),Option.bind_some]
  refine Ok.jn (P:=fun j=>j=(ma,ma,ps (pre++[123]++Lib.itoa ma) (125::q))) ?_ fun j hj=>?_
  ·dsimp only
   rw [peek_cons,Option.bind_some]
   exact Ok.ite (fun f=>by cases f) fun _=>Ok.ret rfl
  ·subst hj
   refine Ok.jn (P:=fun j=>j=false) (Ok.ite (fun f=>by cases f) fun _=>?_) fun j hj=>?_
   ·dsimp only
    rw [peek_cons];exact Ok.ret rfl
   ·subst hj
    refine Ok.chk (ps_in (by simp;omega)) (Ok.ret ?_)
    dsimp only
    rw [ps_step' _ _ _ _ rfl]
    simp
 ·have e:repS mi ma=123::(Lib.itoa mi++44::(Lib.itoa ma++[125])):=by simp [repS,c]
  rw [e] at hn ⊢
  have e2:123::(Lib.itoa mi++44::(Lib.itoa ma++[125]))++q=123::(Lib.itoa mi++44::(Lib.itoa ma++125::q)):=by simp
  rw [e2] at hn ⊢
  simp only [List.length_append,List.length_cons] at hn
  rw [peek_cons,Option.bind_some]
  refine Ok.ite (fun f=>by cases f) fun _=>Ok.chk (ps_in (by simp;omega)) ?_
  rw [ps_step,times_back h1 h2 (by decide) (by simp;omega),Option.bind_some]
  refine Ok.jn (P:=fun j=>j=(mi,ma,ps (pre++[123]++Lib.itoa mi++[44]++Lib.itoa ma) (125::q))) ?_ fun j hj=>?_
  ·dsimp only
   rw [peek_cons,Option.bind_some]
   refine Ok.ite (fun _=>Ok.chk (ps_in (by simp;omega)) ?_) fun f=>by cases f
   rw [ps_step,times_back h3 h4 (by decide) (by simp;omega)]
   exact Ok.ret rfl
  ·subst hj
   refine Ok.jn (P:=fun j=>j=false) (Ok.ite (fun f=>by cases f) fun _=>?_) fun j hj=>?_
   ·dsimp only
    rw [peek_cons];exact Ok.ret rfl
   ·subst hj
    refine Ok.chk (ps_in (by simp;omega)) (Ok.ret ?_)
    dsimp only
    rw [ps_step' _ _ _ _ rfl]
    simp
noncomputable def rsF (n:Nat) (x52:(List GNode)×Gparser):Option (Fl ((List GNode)×Gparser) ((List GNode)×Gparser)):=bif decide (x52.2.at_<(x52.2.s_.length:Int)) then (F_1 x52.2).bind fun y68=>bif (!decide ((y68.toNat:Int)=124)) then (F_1 x52.2).bind fun y69=>bif (!decide ((y69.toNat:Int)=41)) then bif (!x52.2.bad_) then (FR_6 n x52.2).bind fun y70=>chk (room (x52.1.length+[y70.1].length) 72) (some (.nx ((x52.1++[y70.1]),y70.2))) else some (.ex (x52.1,x52.2)) else some (.ex (x52.1,x52.2)) else some (.ex (x52.1,x52.2)) else some (.ex (x52.1,x52.2))
def rsE (r71:(List GNode)×Gparser):Option (GNode×Gparser):=bif decide ((r71.1.length:Int)=0) then some ((GNode.mk 0 [] [] 0 0),(Gparser.mk r71.2.s_ r71.2.at_ true)) else bif decide ((r71.1.length:Int)=1) then chk (inb 0 r71.1.length) (some (r71.1.getD 0 default,r71.2)) else some ((GNode.mk 2 [] r71.1 0 0),r71.2)
theorem rs_eq (n:Nat) (p:Gparser):FR_a (n+1) p=(loop (rsF n) ([],p)).bind rsE:=by
 rw [FR_a];rfl
noncomputable def rcF (n:Nat) (x54:(List GNode)×Gparser):Option (Fl ((List GNode)×Gparser) ((List GNode)×Gparser)):=(F_1 x54.2).bind fun y70=>grp ((decide ((y70.toNat:Int)=124)&&(!x54.2.bad_))) fun b71=>bif b71 then chk (in64 (x54.2.at_+1)) ((FR_a n (Gparser.mk x54.2.s_ (x54.2.at_+1) x54.2.bad_)).bind fun y72=>chk (room (x54.1.length+[y72.1].length) 72) (some (.nx ((x54.1++[y72.1]),y72.2)))) else some (.ex (x54.1,x54.2))
def rcE (r73:(List GNode)×Gparser):Option (GNode×Gparser):=bif decide ((r73.1.length:Int)=1) then chk (inb 0 r73.1.length) (some (r73.1.getD 0 default,r73.2)) else some ((GNode.mk 3 [] r73.1 0 0),r73.2)
theorem rc_eq (n:Nat) (p:Gparser):FR_4 (n+1) p=(FR_a n p).bind fun y2=>(loop (rcF n) ([y2.1],y2.2)).bind rcE:=by
 rw [FR_4];rfl
theorem rsE_one {x:GNode} {p:Gparser}:rsE ([x],p)=some (x,p):=Ok.eq (Ok.ite (fun f=>by simp at f) fun _=>Ok.ite (fun _=>Ok.chk (inb_iff.2 ⟨by omega,by simp⟩) (Ok.ret rfl)) fun f=>by simp at f)
theorem rsE_more {l:List GNode} {p:Gparser} (h:2≤l.length):rsE (l,p)=some (GNode.mk 2 [] l 0 0,p):=Ok.eq (Ok.ite (fun f=>by have:=of_decide_eq_true f;dsimp only at this;omega) fun _=>Ok.ite (fun f=>by have:=of_decide_eq_true f;dsimp only at this;omega) fun _=>Ok.ret rfl)
theorem rcE_one {x:GNode} {p:Gparser}:rcE ([x],p)=some (x,p):=Ok.eq (Ok.ite (fun _=>Ok.chk (inb_iff.2 ⟨by omega,by simp⟩) (Ok.ret rfl)) fun f=>by simp at f)
theorem rcE_more {l:List GNode} {p:Gparser} (h:2≤l.length):rcE (l,p)=some (GNode.mk 3 [] l 0 0,p):=Ok.eq (Ok.ite (fun f=>by have:=of_decide_eq_true f;dsimp only at this;omega) fun _=>Ok.ret rfl)
theorem rs_loop {n:Nat} {q:Str} (hq:endq q):∀(l done:List GNode) (pre:Str),(∀k∈l,Rgt k∧k.Op≠2∧∀pre' q',notb 123 q'→(pre'++(itT k++q')).length≤(pre++((l.map itT).flatten++q)).length→FR_6 n (ps pre' (itT k++q'))=some (k,ps (pre'++itT k) q'))→done.length+l.length≤1001→loop (rsF n) (done,ps pre ((l.map itT).flatten++q))=some (done++l,ps (pre++(l.map itT).flatten) q)
 | [],done,pre,h,hl=>by
  rw [loop_eq]
  have:rsF n (done,ps pre q)=some (.ex (done,ps pre q)):=by
   refine Ok.eq ?_
   unfold rsF
   refine Ok.ite (fun _=>?_) fun _=>Ok.ret rfl
   rcases hq with rfl|⟨t,rfl|rfl⟩
   ·rw [peek_nil,Option.bind_some,Option.bind_some]
    rename_i c
    have c:=of_decide_eq_true c
    unfold ps at c
    simp at c
   ·rw [peek_cons,Option.bind_some]
    exact Ok.ite (fun f=>by cases f) fun _=>Ok.ret rfl
   ·rw [peek_cons,Option.bind_some,Option.bind_some]
    exact Ok.ite (fun _=>Ok.ite (fun f=>by cases f) fun _=>Ok.ret rfl) fun _=>Ok.ret rfl
  show ((rsF n (done,ps pre q)).bind _)=_
  rw [this,List.append_nil,List.map_nil,List.flatten_nil,List.append_nil]
  rfl
 | k::l,done,pre,h,hl=>by
  obtain ⟨h1,h2,h3⟩:=h k (by simp)
  obtain ⟨b,t,h4,b1,b2,b3⟩:=itT_head h1 h2
  simp only [List.length_cons] at hl
  have nq:notb 123 ((l.map itT).flatten++q):=by
   cases l with
   | nil=>exact endq_not hq
   | cons a r =>
    obtain ⟨a1,a2,_⟩:=h a (by simp)
    obtain ⟨b',t',h5,_,_,b6⟩:=itT_head a1 a2
    simp only [List.map_cons,List.flatten_cons,h5,List.cons_append]
    exact notb_cons b6
  have e:((k::l).map itT).flatten++q=itT k++((l.map itT).flatten++q):=by simp
  rw [loop_eq,e]
  have pk:F_1 (ps pre (itT k++((l.map itT).flatten++q)))=some b:=by rw [h4];exact peek_cons _ _ _
  have n1:decide ((b.toNat:Int)=124)=false:=byte_ne (b:=124) b1
  have n2:decide ((b.toNat:Int)=41)=false:=byte_ne (b:=41) b2
  have:rsF n (done,ps pre (itT k++((l.map itT).flatten++q)))=some (.nx (done++[k],ps (pre++itT k) ((l.map itT).flatten++q))):=by
   refine Ok.eq ?_
   unfold rsF
   dsimp only
   rw [pk,Option.bind_some,Option.bind_some,n1,n2]
   refine Ok.ite (fun _=>Ok.ite (fun _=>Ok.ite (fun _=>Ok.ite (fun _=>?_) fun f=>by cases f) fun f=>by cases f) fun f=>by cases f) fun f=>?_
   ·rw [h3 pre _ nq (by rw [e];exact Nat.le_refl _),Option.bind_some]
    exact Ok.chk (room_s (by simp;omega)) (Ok.ret rfl)
   ·exfalso
    have f:=of_decide_eq_false f
    unfold ps at f
    rw [h4] at f
    simp at f
    omega
  rw [this,Option.bind_some]
  have:=rs_loop hq (n:=n) l (done++[k]) (pre++itT k) (fun a ha=>by
   obtain ⟨g1,g2,g3⟩:=h a (by simp [ha])
   exact ⟨g1,g2,fun pre' q' m1 m2=>g3 pre' q' m1 (by rw [e];rw [List.append_assoc] at m2;exact m2)⟩) (by simp;omega)
  show loop (rsF n) (done++[k],ps (pre++itT k) ((l.map itT).flatten++q))=_
  rw [this]
  simp
theorem rc_loop {n:Nat} {q:Str} (hq:q=[]∨∃t,q=41::t):∀(l done:List GNode) (pre:Str),(∀k∈l,∀pre' q',endq q'→(pre'++(k.txt++q')).length≤(pre++(bars l++q)).length→FR_a n (ps pre' (k.txt++q'))=some (k,ps (pre'++k.txt) q'))→done.length+l.length≤1001→(pre++(bars l++q)).length≤100000000→loop (rcF n) (done,ps pre (bars l++q))=some (done++l,ps (pre++bars l) q)
 | [],done,pre,h,hl,hn=>by
  rw [loop_eq]
  have nq:notb 124 q:=by
   rcases hq with rfl|⟨t,rfl⟩
   ·unfold notb;simp
   ·exact notb_cons (by decide)
  obtain ⟨b,h1,h2⟩:=peek_ne (pre:=pre) (c:=124) (by decide) nq
  have n1:decide ((b.toNat:Int)=124)=false:=byte_ne (b:=124) h2
  have:rcF n (done,ps pre q)=some (.ex (done,ps pre q)):=by
   refine Ok.eq ?_
   unfold rcF
   dsimp only
   rw [h1,Option.bind_some,n1]
   exact Ok.grp (Ok.ite (fun f=>by cases f) fun _=>Ok.ret rfl)
  show ((rcF n (done,ps pre q)).bind _)=_
  rw [this,List.append_nil]
  show some (done,ps pre q)=some (done,ps (pre++[]) q)
  rw [List.append_nil]
 | k::l,done,pre,h,hl,hn=>by
  have h3:=h k (by simp)
  simp only [List.length_cons] at hl
  have nq:endq (bars l++q):=by
   cases l with
   | nil =>
    rcases hq with rfl|⟨t,rfl⟩
    ·exact .inl rfl
    ·exact .inr ⟨t,.inr rfl⟩
   | cons a r=>exact .inr ⟨a.txt++bars r++q,.inl (by simp [bars])⟩
  have e:bars (k::l)++q=124::(k.txt++(bars l++q)):=by simp [bars]
  have e2:(pre++[124]++(k.txt++(bars l++q))).length=(pre++(bars (k::l)++q)).length:=by rw [e];simp
  rw [loop_eq,e]
  have:rcF n (done,ps pre (124::(k.txt++(bars l++q))))=some (.nx (done++[k],ps (pre++[124]++k.txt) (bars l++q))):=by
   refine Ok.eq ?_
   unfold rcF
   dsimp only
   rw [peek_cons,Option.bind_some]
   refine Ok.grp (Ok.ite (fun _=>Ok.chk (ps_in (by rw [←e];rw [List.length_append] at hn;exact hn)) ?_) fun f=>by cases f)
   rw [ps_step,h3 _ _ nq (by rw [e2];exact Nat.le_refl _),Option.bind_some]
   exact Ok.chk (room_s (by simp;omega)) (Ok.ret rfl)
  rw [this,Option.bind_some]
  have e3:(pre++[124]++k.txt++(bars l++q)).length=(pre++(bars (k::l)++q)).length:=by rw [e];simp
  have:=rc_loop hq (n:=n) l (done++[k]) (pre++[124]++k.txt) (fun a ha pre' q' m1 m2=>h a (by simp [ha]) pre' q' m1 (by rw [←e3];exact m2)) (by simp;omega) (by rw [e3];exact hn)
  show loop (rcF n) (done++[k],ps (pre++[124]++k.txt) (bars l++q))=_
  rw [this]
  simp [bars]
structure Bq (x:GNode):Prop where
 c:∀(m:Nat) (pre q:Str),4*x.hgt≤m→(q=[]∨∃t,q=41::t)→(pre++(x.txt++q)).length≤90000000→FR_4 m (ps pre (x.txt++q))=some (x,ps (pre++x.txt) q)
 s:∀(m:Nat) (pre q:Str),x.Op≠3→4*x.hgt≤m+1→endq q→(pre++(x.txt++q)).length≤90000000→FR_a m (ps pre (x.txt++q))=some (x,ps (pre++x.txt) q)
 i:∀(m:Nat) (pre q:Str),x.Op=1∨x.Op=4→4*x.hgt≤m+2→notb 123 q→(pre++(x.txt++q)).length≤90000000→FR_6 m (ps pre (x.txt++q))=some (x,ps (pre++x.txt) q)
theorem Bq.it {x:GNode} (hb:Bq x) (hx:Rgt x) (ho:x.Op≠2) {m:Nat} {pre q:Str} (hm:4*x.hgt+2≤m) (hq:notb 123 q) (hl:(pre++(itT x++q)).length≤90000000):FR_6 m (ps pre (itT x++q))=some (x,ps (pre++itT x) q):=by
 unfold itT at hl ⊢
 by_cases c:x.Op=3
 ·rw [if_pos c] at hl ⊢
  obtain ⟨n,rfl⟩:∃n,m=n+2:=⟨m - 2,by omega⟩
  exact ritem_no (ratom_par (by omega) (hb.c n (pre++[40]) (41::q) (by omega) (.inr ⟨_,rfl⟩) (by simp [par] at hl ⊢;omega))) hq
 ·rw [if_neg c] at hl ⊢
  have:x.Op=1∨x.Op=4:=by have:=hx.op;omega
  exact hb.i m pre q this (by omega) hq hl
theorem bq:∀x:GNode,Rgt x→x.cnt≤1000→Bq x:=by
 refine GNode.ind fun x ih hx hc=>?_
 have ihk:∀k∈x.Kids,Bq k:=fun k hk=>ih k hk (hx.kid hk) (by have:=kid_cnt hk;omega)
 have hp:=hgt_pos x
 have htx:=txt_eq x
 have hlen:x.Kids.length≤1000:=by have:=kids_cnt x;omega
 have I:∀(m:Nat) (pre q:Str),x.Op=1∨x.Op=4→4*x.hgt≤m+2→notb 123 q→(pre++(x.txt++q)).length≤90000000→FR_6 m (ps pre (x.txt++q))=some (x,ps (pre++x.txt) q):=by
  intro m pre q ho hm hq hl
  obtain ⟨n,rfl⟩:∃n,m=n+2:=⟨m - 2,by omega⟩
  rcases ho with ho|ho
  ·exact ritem_no (ratom_set hx ho (by omega)) hq
  ·obtain ⟨k,h2,h3,h4,h5,h6,h7⟩:∃k,x.Kids=[k]∧0≤x.Min∧1≤x.Max∧x.Min≤x.Max∧x.Max≤64∧x.Ranges=[]:=by
    rcases hx.ok with h|⟨h,_⟩|⟨_,a,b,c1,c2,c3,c4,_⟩
    ·omega
    ·omega
    ·obtain ⟨k,hk⟩:=one_kid a
     exact ⟨k,hk,c1,c2,c3,c4,b⟩
   have hk:k∈x.Kids:=by rw [h2];simp
   have hkh:=kid_hgt hk
   rw [if_neg (by omega),if_neg (by omega),if_neg (by omega),h2] at htx
   simp only [List.map_cons,List.map_nil,List.headD_cons] at htx
   have ex:x=GNode.mk 4 [] [k] x.Min x.Max:=by
    cases x
    dsimp only at ho h2 h7
    subst ho h2 h7
    rfl
   have hx2:x.txt=(if k.Op=1 then k.txt else par k.txt)++repS x.Min x.Max:=by
    rw [htx];simp only [repT,repS,List.append_assoc]
   have hq2:x.txt++q=(if k.Op=1 then k.txt else par k.txt)++(repS x.Min x.Max++q):=by rw [hx2,List.append_assoc]
   have fin:∀A:Str,FR_b (n+1) (ps pre (A++(repS x.Min x.Max++q)))=some (k,ps (pre++A) (repS x.Min x.Max++q))→(pre++(A++(repS x.Min x.Max++q))).length≤90000000→FR_6 (n+2) (ps pre (A++(repS x.Min x.Max++q)))=some (x,ps (pre++(A++repS x.Min x.Max)) q):=fun A hA hAl=>by
    have:=ritem_yes (n:=n+1) hA h3 (by omega) (by omega) h6 (by rw [List.append_assoc];exact hAl)
    rw [←ex] at this
    rw [this,List.append_assoc]
   rw [hq2] at hl
   rw [hq2,hx2]
   by_cases c:k.Op=1
   ·rw [if_pos c] at hl ⊢
    exact fin _ (ratom_set (hx.kid hk) c (by omega)) hl
   ·rw [if_neg c] at hl ⊢
    exact fin _ (ratom_par (by omega) ((ihk k hk).c n (pre++[40]) (41::_) (by omega) (.inr ⟨_,rfl⟩) (by simp [par] at hl ⊢;omega))) hl
 have S:∀(m:Nat) (pre q:Str),x.Op≠3→4*x.hgt≤m+1→endq q→(pre++(x.txt++q)).length≤90000000→FR_a m (ps pre (x.txt++q))=some (x,ps (pre++x.txt) q):=by
  intro m pre q ho hm hq hl
  obtain ⟨n,rfl⟩:∃n,m=n+1:=⟨m - 1,by omega⟩
  rw [rs_eq]
  by_cases c2:x.Op=2
  ·obtain ⟨h2,h3,h4,h5,h6⟩:2≤x.Kids.length∧x.Ranges=[]∧x.Min=0∧x.Max=0∧∀k∈x.Kids,k.Op≠x.Op:=by
    rcases hx.ok with h|⟨_,h⟩|⟨h,_⟩
    ·omega
    ·exact h
    ·omega
   rw [if_neg (by omega),if_pos c2,seqT_its] at htx
   have ex:x=GNode.mk 2 [] x.Kids 0 0:=by
    cases x
    dsimp only at c2 h3 h4 h5
    subst c2 h3 h4 h5
    rfl
   rw [htx] at hl ⊢
   rw [rs_loop hq x.Kids [] pre (fun a ha=>⟨hx.kid ha,by rw [←c2];exact h6 a ha,fun pre' q' g1 g2=>(ihk a ha).it (hx.kid ha) (by rw [←c2];exact h6 a ha) (by have:=kid_hgt ha;omega) g1 (by omega)⟩) (by simp;omega),Option.bind_some,List.nil_append,rsE_more h2,←ex]
  ·have o14:x.Op=1∨x.Op=4:=by have:=hx.op;omega
   have hi:=I n pre q o14 (by omega) (endq_not hq) hl
   have ht:itT x=x.txt:=by unfold itT;rw [if_neg ho]
   have:=rs_loop hq (n:=n) [x] [] pre (fun a ha=>by
    cases List.mem_singleton.1 ha
    exact ⟨hx,c2,fun pre' q' g1 g2=>by
     rw [ht] at g2 ⊢
     simp only [List.map_cons,List.map_nil,List.flatten_cons,List.flatten_nil,List.append_nil,ht] at g2
     exact I n pre' q' o14 (by omega) g1 (by omega)⟩) (by simp)
   simp only [List.map_cons,List.map_nil,List.flatten_cons,List.flatten_nil,List.append_nil,ht,List.nil_append] at this
   rw [this,Option.bind_some,rsE_one]
 refine ⟨?_,S,I⟩
 intro m pre q hm hq hl
 obtain ⟨n,rfl⟩:∃n,m=n+1:=⟨m - 1,by omega⟩
 have hqe:endq q:=by
  rcases hq with rfl|⟨t,rfl⟩
  ·exact .inl rfl
  ·exact .inr ⟨t,.inr rfl⟩
 rw [rc_eq]
 by_cases c3:x.Op=3
 ·obtain ⟨h2,h3,h4,h5,h6⟩:2≤x.Kids.length∧x.Ranges=[]∧x.Min=0∧x.Max=0∧∀k∈x.Kids,k.Op≠x.Op:=by
   rcases hx.ok with h|⟨_,h⟩|⟨h,_⟩
   ·omega
   ·exact h
   ·omega
  rw [if_neg (by omega),if_neg (by omega),if_pos c3] at htx
  rcases hkk:x.Kids with _|⟨k,l⟩
  ·rw [hkk] at h2;simp at h2
  have ex:x=GNode.mk 3 [] (k::l) 0 0:=by
   cases x
   dsimp only at c3 h3 h4 h5 hkk
   subst c3 h3 h4 h5 hkk
   rfl
  rw [hkk] at htx
  simp only [List.map_cons,altT,barT_bars] at htx
  have htx:x.txt=k.txt++bars l:=htx
  have hmem:∀a∈k::l,a∈x.Kids:=fun a ha=>by rw [hkk];exact ha
  have rd:∀a∈k::l,∀pre' q',endq q'→(pre'++(a.txt++q')).length≤90000000→FR_a n (ps pre' (a.txt++q'))=some (a,ps (pre'++a.txt) q'):=fun a ha pre' q' g1 g2=>by
   have:=kid_hgt (hmem a ha)
   exact (ihk a (hmem a ha)).s n pre' q' (by rw [←c3];exact h6 a (hmem a ha)) (by omega) g1 g2
  have e:x.txt++q=k.txt++(bars l++q):=by rw [htx];simp
  have nq:endq (bars l++q):=by
   cases l with
   | nil=>exact hqe
   | cons a r=>exact .inr ⟨a.txt++bars r++q,.inl (by simp [bars])⟩
  rw [e] at hl ⊢
  have el:(pre++k.txt++(bars l++q)).length≤90000000:=by rw [List.append_assoc];exact hl
  rw [rd k (by simp) pre _ nq hl,Option.bind_some]
  rw [hkk] at hlen
  show ((loop (rcF n) ([k],ps (pre++k.txt) (bars l++q))).bind rcE)=_
  rw [rc_loop hq l [k] (pre++k.txt) (fun a ha pre' q' g1 g2=>rd a (by simp [ha]) pre' q' g1 (by omega)) (by simp at hlen ⊢;omega) (by omega),Option.bind_some]
  show rcE (k::l,ps (pre++k.txt++bars l) q)=_
  rw [rcE_more (by rw [hkk] at h2;simpa using h2),htx,←ex,List.append_assoc]
 ·rw [S n pre q c3 (by omega) hqe hl,Option.bind_some]
  show ((loop (rcF n) ([x],ps (pre++x.txt) q)).bind rcE)=_
  have:=rc_loop hq (n:=n) [] [x] (pre++x.txt) (by simp) (by simp) (by simp only [bars,List.map_nil,List.flatten_nil,List.nil_append];rw [List.append_assoc];omega)
  simp only [bars,List.map_nil,List.flatten_nil,List.nil_append,List.append_nil] at this
  rw [this,Option.bind_some,rcE_one]
end Go.Ab
namespace Go.Ab
open Go.Proofs
structure Pr (N:Nat) (p:Gparser):Prop where
 s:p.s_.length=N
 a:0≤p.at_
structure Pt (N:Nat) (p p':Gparser):Prop where
 s:p'.s_=p.s_
 a:p.at_≤p'.at_
 b:p'.at_≤2*N+3 - p.at_
theorem peek_tot {N:Nat} {p:Gparser} (h:Pr N p):Ok (F_1 p) fun b=>(b.toNat:Int)≠0→p.at_<N:=by
 have:=h.s;have:=h.a
 unfold F_1
 refine Ok.ite (fun _=>Ok.ret fun f=>absurd rfl f) fun c=>?_
 have c:=of_decide_eq_false c
 exact Ok.chk (inb_iff.2 ⟨by omega,by omega⟩) (Ok.ret fun _=>by omega)
def digD (i:Nat):Bool:=(List.range 256).all fun d=>match digV (i:Int) (UInt8.ofNat d) with
 | some y=>decide (0≤y)&&decide (y≤255)
 | none=>true
def digE (i:Nat):Bool:=match digV 0 (UInt8.ofNat i) with
 | some y=>decide (0≤y)&&decide (y≤15)
 | none=>true
theorem digE_all:(List.range 256).all digE=true:=by kernel_rfl
theorem digD_all:(List.range 16).all digD=true:=by kernel_rfl
theorem dig_first {d:UInt8} {y:Int} (h:digV 0 d=some y):0≤y∧y≤15:=by
 have hc:=List.all_eq_true.1 digE_all d.toNat (List.mem_range.2 d.toNat_lt)
 unfold digE at hc
 rw [show UInt8.ofNat d.toNat=d from by simp,h] at hc
 simpa using hc
theorem dig_all {x:Int} (h0:0≤x) (h1:x≤15) (d:UInt8) {y:Int} (h:digV x d=some y):0≤y∧y≤255:=by
 obtain ⟨k,rfl⟩:=Int.eq_ofNat_of_zero_le h0
 have hc:=List.all_eq_true.1 digD_all k (List.mem_range.2 (by omega))
 have hc:=List.all_eq_true.1 hc d.toNat (List.mem_range.2 d.toNat_lt)
 rw [show UInt8.ofNat d.toNat=d from by simp,h] at hc
 simpa using hc
def digS (i:Nat):Bool:=(List.range 256).all fun d=>bif decide (97≤((UInt8.ofNat d).toNat:Int))&&decide (((UInt8.ofNat d).toNat:Int)≤102) then in64 ((bits .or .i64 (IntKind.wrap .i64 ((i:Int)*2^4)) ((u8 (((UInt8.ofNat d).toNat:Int) - 97)).toNat:Int))+10) else true
theorem digS_all:(List.range 16).all digS=true:=by kernel_rfl
theorem dig_in {x:Int} (h0:0≤x) (h1:x≤15) {d:UInt8} (hd:(decide (97≤(d.toNat:Int))&&decide ((d.toNat:Int)≤102))=true):in64 ((bits .or .i64 (IntKind.wrap .i64 (x*2^4)) ((u8 ((d.toNat:Int) - 97)).toNat:Int))+10)=true:=by
 obtain ⟨k,rfl⟩:=Int.eq_ofNat_of_zero_le h0
 have hc:=List.all_eq_true.1 digS_all k (List.mem_range.2 (by omega))
 have hc:=List.all_eq_true.1 hc d.toNat (List.mem_range.2 d.toNat_lt)
 rw [show UInt8.ofNat d.toNat=d from by simp,hd] at hc
 exact hc
theorem charL_tot {N:Nat} (hN:N≤1000000) {p:Gparser} {x i:Int} (hs:p.s_.length=N) (h0:0≤p.at_) (h1:p.at_+2<N) (hi:1≤i) (hi2:i≤3) (hx:0≤x) (hx2:i≤2→x≤15) (hx1:i=1→x=0) :
  Ok (F_17 (x,i,p)) (Fl.elim (fun y=>∃w,y=(y.1,i+1,w)∧i≤2∧w.s_=p.s_∧w.at_=p.at_∧0≤y.1∧(i+1≤2→y.1≤15)∧i+1≠1) (fun r=>r=(x,p))):=by
 unfold F_17
 refine Ok.ite (fun c=>?_) fun c=>Ok.ret rfl
 have c:i≤2:=of_decide_eq_true c
 generalize hd:p.s_.getD (p.at_+i).toNat 0=d
 refine Ok.jn (P:=fun j:Int×Gparser=>j.2.s_=p.s_∧j.2.at_=p.at_∧0≤j.1∧(i+1≤2→j.1≤15)) (Ok.chk (in64_s (by dsimp only;omega) (by dsimp only;omega)) (Ok.chk (inb_iff.2 ⟨by dsimp only;omega,by dsimp only;omega⟩) ?_)) fun j hj=>?_
 ·dsimp only
  have key:∀y,digV x d=some y→0≤y∧(i+1≤2→y≤15):=fun y hy=>by
   by_cases c1:i=1
   ·rw [hx1 c1] at hy
    have:=dig_first hy
    exact ⟨this.1,fun _=>this.2⟩
   ·exact ⟨(dig_all hx (hx2 c) d hy).1,fun _=>by omega⟩
  refine Ok.grp (Ok.ite (fun c1=>Ok.ret ?_) fun c1=>Ok.grp (Ok.ite (fun c2=>Ok.chk (dig_in hx (hx2 c) c2) (Ok.ret ?_)) fun c2=>Ok.ret ⟨rfl,rfl,hx,fun h=>by have:=hx1 (by omega);dsimp only;omega⟩))
  ·have:=key _ (by unfold digV;rw [c1];rfl)
   exact ⟨rfl,rfl,this.1,this.2⟩
  ·have e:digV x d=some ((bits .or .i64 (IntKind.wrap .i64 (x*2^4)) ((u8 ((d.toNat:Int) - 97)).toNat:Int))+10):=by
    unfold digV
    rw [c1,c2]
    exact Ok.eq (Ok.chk (dig_in hx (hx2 c) c2) (Ok.ret rfl))
   have:=key _ e
   exact ⟨rfl,rfl,this.1,this.2⟩
 ·refine Ok.chk (in64_s (by dsimp only;omega) (by dsimp only;omega)) (Ok.ret ?_)
  exact ⟨j.2,rfl,c,hj.1,hj.2.1,hj.2.2.1,hj.2.2.2,by omega⟩
theorem char_tot {N:Nat} (hN:N≤1000000) {p:Gparser} (h:Pr N p) (hb:p.at_≤N):Ok (F_14 p) fun y=>y.2.s_=p.s_∧p.at_+1≤y.2.at_∧y.2.at_≤N+1:=by
 have hs:=h.s;have ha:=h.a
 unfold F_14
 refine Ok.bind (peek_tot h) fun b _=>Ok.chk (in64_s (by omega) (by omega)) (Ok.ite (fun _=>Ok.ret ⟨rfl,Int.le_refl _,by show p.at_+1≤_;omega⟩) fun _=>Ok.chk (in64_s (by omega) (by omega)) (Ok.ite (fun _=>Ok.ret ⟨rfl,Int.le_refl _,by show p.at_+1≤_;omega⟩) fun c=>?_))
 have c:=of_decide_eq_false c
 refine Ok.chk (inb_iff.2 ⟨by omega,by omega⟩) (Ok.ite (fun _=>Ok.ret ⟨rfl,Int.le_refl _,by show p.at_+1≤_;omega⟩) fun _=>?_)
 refine Ok.bind (Ok.loop (Q:=fun r:Int×Gparser=>r.2.s_=p.s_∧r.2.at_=p.at_+1) (fun x=>x.2.2.s_=p.s_∧x.2.2.at_=p.at_+1∧1≤x.2.1∧x.2.1≤3∧0≤x.1∧(x.2.1≤2→x.1≤15)∧(x.2.1=1→x.1=0)) (fun x=>(3 - x.2.1).toNat) (fun x hx=>?_) (0,1,Gparser.mk p.s_ (p.at_+1) p.bad_) ⟨rfl,rfl,Int.le_refl _,by dsimp only;omega,Int.le_refl _,fun _=>by dsimp only;omega,fun _=>rfl⟩) fun r hr=>?_
 ·obtain ⟨x,i,w⟩:=x
  obtain ⟨w1,w2,w3,w4,w5,w6,w7⟩:=hx
  dsimp only at w1 w2 w3 w4 w5 w6 w7
  refine Ok.mono (charL_tot hN (by rw [w1];exact hs) (by omega) (by omega) w3 w4 w5 w6 w7) fun y hy=>?_
  cases y with
  | nx y =>
   obtain ⟨w',e,q1,q2,q3,q4,q5,q6⟩:=hy
   rw [e]
   refine ⟨⟨by rw [←w1];exact q2,by rw [←w2];exact q3,by dsimp only;omega,by dsimp only;omega,q4,q5,fun h=>absurd h q6⟩,?_⟩
   dsimp only
   omega
  | ex r=>rw [show r=(x,w) from hy];exact ⟨w1,w2⟩
 ·refine Ok.chk (in64_s (by rw [hr.2];omega) (by rw [hr.2];omega)) (Ok.ret ⟨hr.1,?_,?_⟩)
  ·show _≤r.2.at_+3;rw [hr.2];omega
  ·show r.2.at_+3≤_;rw [hr.2];omega
theorem rset_tot {N:Nat} (hN:N≤1000000) {p:Gparser} (h:Pr N p) (hb:p.at_≤N):Ok (F_1k p) fun y=>y.2.s_=p.s_∧p.at_≤y.2.at_∧y.2.at_≤N+2:=by
 have hs:=h.s;have ha:=h.a
 unfold F_1k
 refine Ok.bind (Ok.loop (Q:=Sum.elim (fun u:List GRange×Gparser=>u.2.s_=p.s_∧p.at_≤u.2.at_∧u.2.at_≤N+1) fun u:GNode×Gparser=>u.2.s_=p.s_∧p.at_≤u.2.at_∧u.2.at_≤N+2) (fun x:List GRange×Gparser=>x.2.s_=p.s_∧p.at_≤x.2.at_∧x.2.at_≤(N:Int)+1∧(x.1.length:Int)≤x.2.at_) (fun x=>((N:Int)+2 - x.2.at_).toNat) (fun x hx=>?_) ([],p) ⟨rfl,Int.le_refl _,by dsimp only;omega,by simpa using ha⟩) fun r hr=>?_
 ·obtain ⟨l,q⟩:=x
  obtain ⟨q1,q2,q3,q4⟩:=hx
  dsimp only at q1 q2 q3 q4
  have hq:Pr N q:=⟨by rw [q1];exact hs,by omega⟩
  unfold F_1b
  dsimp only
  refine Ok.bind (peek_tot hq) fun b hb=>Ok.grp (Ok.ite (fun _=>Ok.ite (fun _=>Ok.ret ⟨q1,q2,by show q.at_≤_;omega⟩) fun c=>?_) fun _=>Ok.ret ⟨q1,q2,q3⟩)
  have c:=of_decide_eq_false c
  rw [hq.s] at c
  refine Ok.bind (char_tot hN hq (by omega)) fun y hy=>?_
  have hy':Pr N y.2:=⟨by rw [hy.1];exact hq.s,by omega⟩
  refine Ok.jn (P:=fun j:UInt8×Gparser=>j.2.s_=p.s_∧q.at_+1≤j.2.at_∧j.2.at_≤N+1) ?_ fun j hj=>?_
  ·refine Ok.bind (peek_tot hy') fun b2 hb2=>Ok.ite (fun c2=>?_) fun _=>Ok.ret ⟨by rw [hy.1];exact q1,hy.2.1,hy.2.2⟩
   have c2:=of_decide_eq_true c2
   have:=hb2 (by omega)
   refine Ok.chk (in64_s (by omega) (by omega)) (Ok.bind (char_tot hN (p:=Gparser.mk y.2.s_ (y.2.at_+1) y.2.bad_) ⟨hy'.s,by dsimp only;omega⟩ (by dsimp only;omega)) fun z hz=>Ok.ret ⟨by rw [hz.1];exact hy.1.trans q1,?_,hz.2.2⟩)
   have:y.2.at_+1+1≤z.2.at_:=hz.2.1
   show q.at_+1≤z.2.at_
   omega
  ·obtain ⟨j1,j2,j3⟩:=hj
   refine Ok.chk (room_s (by show (l.length+1)*2≤_;omega)) (Ok.ret ⟨⟨j1,by dsimp only;omega,j3,?_⟩,by dsimp only;omega⟩)
   dsimp only
   rw [List.length_append];simp;omega
 ·cases r with
  | inl u =>
   obtain ⟨u1,u2,u3⟩:=hr
   rw [Sum_inl]
   exact Ok.chk (in64_s (by omega) (by omega)) (Ok.ret ⟨u1,by show _≤u.2.at_+1;omega,by show u.2.at_+1≤_;omega⟩)
  | inr u=>exact Ok.ret hr
theorem dv_le {d:UInt8} (h1:48≤(d.toNat:Int)) (h2:(d.toNat:Int)≤57):((u8 ((d.toNat:Int) - 48)).toNat:Int)≤9:=by
 have:=u8_toNat ((d.toNat:Int) - 48)
 omega
theorem times_tot {N:Nat} (hN:N≤1000000) {p:Gparser} (h:Pr N p) (hb:p.at_≤N):Ok (F_1f p) fun y=>y.2.s_=p.s_∧p.at_≤y.2.at_∧y.2.at_≤N:=by
 have hs:=h.s;have ha:=h.a
 unfold F_1f
 refine Ok.bind (Ok.loop (Q:=fun y:Int×Gparser=>y.2.s_=p.s_∧p.at_≤y.2.at_∧y.2.at_≤N) (fun x:Int×Gparser=>x.2.s_=p.s_∧p.at_≤x.2.at_∧x.2.at_≤(N:Int)∧0≤x.1∧x.1≤1000∧(x.2.at_=p.at_→x.1=0)∧(x.2.at_=p.at_+1→x.1≤9)∧(x.2.at_=p.at_+2→x.1≤99)) (fun x=>((N:Int) - x.2.at_).toNat) (fun x hx=>?_) (0,p) ⟨rfl,Int.le_refl _,hb,Int.le_refl _,by dsimp only;omega,fun _=>rfl,fun _=>by dsimp only;omega,fun _=>by dsimp only;omega⟩) fun r hr=>Ok.grp (Ok.ret hr)
 obtain ⟨n,q⟩:=x
 obtain ⟨q1,q2,q3,q4,q5,q6,q7,q8⟩:=hx
 dsimp only at q1 q2 q3 q4 q5 q6 q7 q8
 have hq:Pr N q:=⟨by rw [q1];exact hs,by omega⟩
 have done:Fl.elim (fun s':Int×Gparser=>(s'.2.s_=p.s_∧p.at_≤s'.2.at_∧s'.2.at_≤N∧0≤s'.1∧s'.1≤1000∧(s'.2.at_=p.at_→s'.1=0)∧(s'.2.at_=p.at_+1→s'.1≤9)∧(s'.2.at_=p.at_+2→s'.1≤99))∧(N - s'.2.at_).toNat<(N - q.at_).toNat) (fun y:Int×Gparser=>y.2.s_=p.s_∧p.at_≤y.2.at_∧y.2.at_≤N) (.ex (n,q)):=⟨q1,q2,q3⟩
 obtain ⟨b,hpk,hb⟩:=peek_tot hq
 unfold F_y
 dsimp only
 rw [hpk,Option.bind_some]
 refine Ok.ite (fun c1=>?_) fun _=>Ok.ret done
 rw [Option.bind_some]
 refine Ok.ite (fun c2=>?_) fun _=>Ok.ret done
 have c1:=of_decide_eq_true c1
 have c2:=of_decide_eq_true c2
 have hlt:=hb (by omega)
 refine Ok.chk (in64_s (by omega) (by omega)) (Ok.ite (fun c3=>?_) fun _=>Ok.ret done)
 have c3:=of_decide_eq_true c3
 have hv:=dv_le c1 c2
 have hv0:(0:Int)≤((u8 ((b.toNat:Int) - 48)).toNat:Int):=by omega
 have hn:n≤99:=by
  by_cases e0:q.at_=p.at_
  ·have:=q6 e0;omega
  ·by_cases e1:q.at_=p.at_+1
   ·have:=q7 e1;omega
   ·exact q8 (by omega)
 refine Ok.chk (in64_s (by omega) (by omega)) ?_
 rw [Option.bind_some]
 refine Ok.chk (in64_s (by omega) (by omega)) (Ok.chk (in64_s (by omega) (by omega)) (Ok.ret ⟨⟨q1,by dsimp only;omega,by dsimp only;omega,by dsimp only;omega,by dsimp only;omega,fun e=>by dsimp only at e;omega,fun e=>?_,fun e=>?_⟩,by dsimp only;omega⟩))
 ·dsimp only at e ⊢
  have:=q6 (by omega);omega
 ·dsimp only at e ⊢
  have:=q7 (by omega);omega
theorem ratom_tot {N n:Nat} (hN:N≤1000000) {p:Gparser} (h:Pr N p) (hb:p.at_<N) (hc:∀q,Pr N q→q.at_=p.at_+1→Ok (FR_4 n q) fun y=>Pt N q y.2):Ok (FR_b (n+1) p) fun y=>y.2.s_=p.s_∧p.at_+1≤y.2.at_∧y.2.at_≤2*N+3 - p.at_:=by
 have hs:=h.s;have ha:=h.a
 rw [FR_b]
 refine Ok.bind (peek_tot h) fun b _=>Ok.ite (fun _=>Ok.chk (in64_s (by omega) (by omega)) (Ok.bind (rset_tot hN (p:=Gparser.mk p.s_ (p.at_+1) p.bad_) ⟨hs,by dsimp only;omega⟩ (by dsimp only;omega)) fun y hy=>Ok.ret ⟨hy.1,hy.2.1,by have:=hy.2.2;show y.2.at_≤_;omega⟩)) fun _=>Ok.ite (fun _=>Ok.chk (in64_s (by omega) (by omega)) (Ok.bind (hc (Gparser.mk p.s_ (p.at_+1) p.bad_) ⟨hs,by dsimp only;omega⟩ rfl) fun y hy=>?_)) fun _=>Ok.bind (char_tot hN h (by omega)) fun y hy=>Ok.ret ⟨hy.1,hy.2.1,by have:=hy.2.2;show y.2.at_≤_;omega⟩
 obtain ⟨y1,y2,y3⟩:=hy
 dsimp only at y1 y2 y3
 have hp:Pr N y.2:=⟨by rw [y1];exact hs,by omega⟩
 refine Ok.jn (P:=fun _=>True) (Ok.ite (fun _=>Ok.ret trivial) fun _=>Ok.bind (peek_tot hp) fun _ _=>Ok.ret trivial) fun j _=>Ok.chk (in64_s (by omega) (by omega)) (Ok.ret ⟨y1,by show _≤y.2.at_+1;omega,by show y.2.at_+1≤_;omega⟩)
theorem ritem_tot {N n:Nat} (hN:N≤1000000) {p:Gparser} (h:Pr N p) (hb:p.at_<N) (hc:∀q,Pr N q→q.at_=p.at_+1→Ok (FR_4 n q) fun y=>Pt N q y.2):Ok (FR_6 (n+2) p) fun y=>y.2.s_=p.s_∧p.at_+1≤y.2.at_∧y.2.at_≤2*N+3 - p.at_:=by
 have hs:=h.s;have ha:=h.a
 rw [FR_6]
 refine Ok.bind (ratom_tot hN h hb hc) fun y hy=>?_
 obtain ⟨y1,y2,y3⟩:=hy
 have hp:Pr N y.2:=⟨by rw [y1];exact hs,by omega⟩
 refine Ok.bind (peek_tot hp) fun b hb2=>Ok.ite (fun _=>Ok.ret ⟨y1,y2,y3⟩) fun c=>?_
 have c:(b.toNat:Int)=123:=by simpa using c
 have hlt:=hb2 (by omega)
 refine Ok.chk (in64_s (by omega) (by omega)) (Ok.bind (times_tot hN (p:=Gparser.mk y.2.s_ (y.2.at_+1) y.2.bad_) ⟨hp.s,by dsimp only;omega⟩ (by dsimp only;omega)) fun z hz=>?_)
 obtain ⟨z1,z2,z3⟩:=hz
 dsimp only at z1 z2
 have hpz:Pr N z.2:=⟨by rw [z1];exact hp.s,by omega⟩
 refine Ok.jn (P:=fun j:Int×Int×Gparser=>j.2.2.s_=p.s_∧y.2.at_+1≤j.2.2.at_∧j.2.2.at_≤N) ?_ fun j hj=>?_
 ·refine Ok.bind (peek_tot hpz) fun b3 hb3=>Ok.ite (fun c3=>?_) fun _=>Ok.ret ⟨by rw [z1];exact y1,z2,z3⟩
  have c3:=of_decide_eq_true c3
  have:=hb3 (by omega)
  refine Ok.chk (in64_s (by omega) (by omega)) (Ok.bind (times_tot hN (p:=Gparser.mk z.2.s_ (z.2.at_+1) z.2.bad_) ⟨hpz.s,by dsimp only;omega⟩ (by dsimp only;omega)) fun u hu=>Ok.ret ⟨by rw [hu.1];exact z1.trans y1,?_,hu.2.2⟩)
  have:z.2.at_+1≤u.2.at_:=hu.2.1
  show _≤u.2.at_
  omega
 ·obtain ⟨j1,j2,j3⟩:=hj
  have hpj:Pr N j.2.2:=⟨by rw [j1];exact hs,by omega⟩
  refine Ok.jn (P:=fun _=>True) (Ok.ite (fun _=>Ok.ret trivial) fun _=>Ok.bind (peek_tot hpj) fun _ _=>Ok.ret trivial) fun w _=>Ok.chk (in64_s (by omega) (by omega)) (Ok.ret ⟨j1,by show _≤j.2.2.at_+1;omega,by show j.2.2.at_+1≤_;omega⟩)
theorem rseq_tot {N n:Nat} (hN:N≤1000000) {p:Gparser} (h:Pr N p) (hb:p.at_≤N) (hi:∀q,Pr N q→p.at_≤q.at_→q.at_<N→Ok (FR_6 n q) fun y=>y.2.s_=q.s_∧q.at_+1≤y.2.at_∧y.2.at_≤2*N+3 - q.at_):Ok (FR_a (n+1) p) fun y=>Pt N p y.2:=by
 have hs:=h.s;have ha:=h.a
 rw [rs_eq]
 refine Ok.bind (Ok.loop (Q:=fun y:List GNode×Gparser=>Pt N p y.2) (fun x:List GNode×Gparser=>Pt N p x.2∧(x.1.length:Int)≤x.2.at_) (fun x=>(2*(N:Int)+3 - x.2.at_).toNat) (fun x hx=>?_) ([],p) ⟨⟨rfl,Int.le_refl _,by dsimp only;omega⟩,by simpa using ha⟩) fun r hr=>?_
 ·obtain ⟨l,q⟩:=x
  obtain ⟨⟨q1,q2,q3⟩,q4⟩:=hx
  dsimp only at q1 q2 q3 q4
  have hq:Pr N q:=⟨by rw [q1];exact hs,by omega⟩
  have done:Pt N p q:=⟨q1,q2,q3⟩
  obtain ⟨b,hpk,_⟩:=peek_tot hq
  unfold rsF
  dsimp only
  refine Ok.ite (fun c=>?_) fun _=>Ok.ret done
  have c:=of_decide_eq_true c
  rw [hq.s] at c
  rw [hpk,Option.bind_some,Option.bind_some]
  refine Ok.ite (fun _=>Ok.ite (fun _=>Ok.ite (fun _=>?_) fun _=>Ok.ret done) fun _=>Ok.ret done) fun _=>Ok.ret done
  refine Ok.bind (hi q hq q2 c) fun y hy=>?_
  obtain ⟨y1,y2,y3⟩:=hy
  refine Ok.chk (room_s (by show (l.length+1)*72≤_;omega)) (Ok.ret ⟨⟨⟨by rw [y1];exact q1,by dsimp only;omega,by dsimp only;omega⟩,?_⟩,by dsimp only;omega⟩)
  dsimp only
  rw [List.length_append];simp;omega
 ·unfold rsE
  refine Ok.ite (fun _=>Ok.ret ⟨hr.s,hr.a,hr.b⟩) fun _=>Ok.ite (fun c=>?_) fun _=>Ok.ret hr
  have c:=of_decide_eq_true c
  exact Ok.chk (inb_iff.2 ⟨by omega,by omega⟩) (Ok.ret hr)
theorem rchoice_tot {N:Nat} (hN:N≤1000000):∀(R m:Nat) (p:Gparser),Pr N p→p.at_+R=N→4*R+2≤m→Ok (FR_4 m p) fun y=>Pt N p y.2:=by
 intro R
 induction R using Nat.strongRecOn with
 | ind R ih =>
 intro m p h hR hm
 obtain ⟨n,rfl⟩:∃n,m=n+2:=⟨m - 2,by omega⟩
 have hs:=h.s;have ha:=h.a
 have hi:∀q,Pr N q→p.at_≤q.at_→q.at_<N→Ok (FR_6 n q) fun y=>y.2.s_=q.s_∧q.at_+1≤y.2.at_∧y.2.at_≤2*N+3 - q.at_:=fun q hq h1 h2=>by
  obtain ⟨k,rfl⟩:∃k,n=k+2:=⟨n - 2,by omega⟩
  exact ritem_tot hN hq h2 fun u hu e=>ih (N - u.at_).toNat (by omega) k u hu (by omega) (by omega)
 rw [rc_eq]
 refine Ok.bind (rseq_tot hN h (by omega) hi) fun y hy=>Ok.bind (Ok.loop (Q:=fun y:List GNode×Gparser=>Pt N p y.2) (fun x:List GNode×Gparser=>Pt N p x.2∧(x.1.length:Int)≤x.2.at_+1) (fun x=>(2*(N:Int)+3 - x.2.at_).toNat) (fun x hx=>?_) ([y.1],y.2) ⟨hy,by have:=hy.a;show ((1:Nat):Int)≤y.2.at_+1;omega⟩) fun r hr=>?_
 ·obtain ⟨l,q⟩:=x
  obtain ⟨⟨q1,q2,q3⟩,q4⟩:=hx
  dsimp only at q1 q2 q3 q4
  have hq:Pr N q:=⟨by rw [q1];exact hs,by omega⟩
  unfold rcF
  dsimp only
  refine Ok.bind (peek_tot hq) fun b hb=>Ok.grp (Ok.ite (fun c=>?_) fun _=>Ok.ret ⟨q1,q2,q3⟩)
  simp only [Bool.and_eq_true,decide_eq_true_eq] at c
  have hlt:=hb (by omega)
  refine Ok.chk (in64_s (by omega) (by omega)) (Ok.bind (rseq_tot hN (p:=Gparser.mk q.s_ (q.at_+1) q.bad_) ⟨hq.s,by dsimp only;omega⟩ (by dsimp only;omega) fun u hu h1 h2=>hi u hu (by dsimp only at h1;omega) h2) fun z hz=>?_)
  obtain ⟨z1,z2,z3⟩:=hz
  dsimp only at z1 z2 z3
  refine Ok.chk (room_s (by show (l.length+1)*72≤_;omega)) (Ok.ret ⟨⟨⟨by rw [z1];exact q1,by dsimp only;omega,by dsimp only;omega⟩,?_⟩,by dsimp only;omega⟩)
  dsimp only
  rw [List.length_append];simp;omega
 ·unfold rcE
  refine Ok.ite (fun c=>?_) fun _=>Ok.ret hr
  have c:=of_decide_eq_true c
  exact Ok.chk (inb_iff.2 ⟨by omega,by omega⟩) (Ok.ret hr)
end Go.Ab
namespace Go.Ab
open Go.Proofs
theorem parser_mono:∀n,(∀r,Le (FR_b n r) (FR_b (n+1) r))∧(∀r,Le (FR_6 n r) (FR_6 (n+1) r))∧(∀r,Le (FR_a n r) (FR_a (n+1) r))∧(∀r,Le (FR_4 n r) (FR_4 (n+1) r))
 | 0=>⟨fun r=>by rw [FR_b];exact Le.non,fun r=>by rw [FR_6];exact Le.non,fun r=>by rw [FR_a];exact Le.non,fun r=>by rw [FR_4];exact Le.non⟩
 | n+1=>by
  obtain ⟨h1,h2,h3,h4⟩:=parser_mono n
  refine ⟨fun r=>?_,fun r=>?_,fun r=>?_,fun r=>?_⟩
  ·rw [FR_b,FR_b]
   (repeat' (with_reducible first|exact Le.refl|assumption|exact h4 _|(refine Le.bind ?_ fun _=>?_)|(refine Le.jn ?_ fun _=>?_)|(refine Le.grp fun _=>?_)|(refine Le.chk ?_)|(refine Le.cond ?_ ?_)))
  ·rw [FR_6,FR_6]
   (repeat' (with_reducible first|exact Le.refl|assumption|exact h1 _|(refine Le.bind ?_ fun _=>?_)|(refine Le.jn ?_ fun _=>?_)|(refine Le.grp fun _=>?_)|(refine Le.chk ?_)|(refine Le.cond ?_ ?_)))
  ·rw [FR_a,FR_a]
   (repeat' (with_reducible first|exact Le.refl|assumption|exact h2 _|(refine Le.bind ?_ fun _=>?_)|(refine Le.jn ?_ fun _=>?_)|(refine Le.grp fun _=>?_)|(refine Le.chk ?_)|(refine Le.cond ?_ ?_)|(refine Le.loopL fun _=>?_)))
  ·rw [FR_4,FR_4]
   (repeat' (with_reducible first|exact Le.refl|assumption|exact h3 _|(refine Le.bind ?_ fun _=>?_)|(refine Le.jn ?_ fun _=>?_)|(refine Le.grp fun _=>?_)|(refine Le.chk ?_)|(refine Le.cond ?_ ?_)|(refine Le.loopL fun _=>?_)))
theorem rchoice_any {s:Str} (h:s.length≤100000):Ok (F_4 (Gparser.mk s 0 false)) fun _=>True :=
 Ok.mono (Ok.lim (f:=fun n=>FR_4 n (Gparser.mk s 0 false)) (fun n=>(parser_mono n).2.2.2 _) _ (rchoice_tot (N:=s.length) (by omega) s.length _ _ ⟨rfl,Int.le_refl 0⟩ (by show (0:Int)+_=_;omega) (Nat.le_refl _))) fun _ _=>trivial
theorem rchoice_back {x:GNode} (hx:PV x):F_4 (Gparser.mk x.txt 0 false)=some (x,Gparser.mk x.txt x.txt.length false):=by
 have hl:=txt_len x hx.rgt
 have hc:=hx.cnt
 have hh:=hx.hgt
 refine lim_of ⟨4*x.hgt,fun m hm=>?_⟩
 have:=(bq x hx.rgt (by omega)).c m [] [] hm (.inl rfl) (by simp;omega)
 simpa [ps] using this
theorem rparse {s:Str} (hs:s.length≤4000):Ok (F_1z s) (Tx s):=by
 unfold F_1z
 refine Ok.ite (fun c=>by have:=of_decide_eq_true c;omega) fun _=>?_
 unfold F_24
 by_cases c:∃x,PV x∧x.txt=s
 ·obtain ⟨x,hx,rfl⟩:=c
  rw [rchoice_back hx,Option.bind_some,rtext_eq,if_pos hx,Option.bind_some]
  refine Ok.bind (P:=fun y=>y=(x,true)) (Ok.grp (Ok.ite (fun f=>by simp at f) fun _=>Ok.grp (Ok.ite (fun f=>by simp at f) fun _=>Ok.ret rfl))) fun y hy=>?_
  subst hy
  exact Ok.ite (fun f=>by cases f) fun _=>Ok.ret (.inl ⟨x,hx,rfl,rfl⟩)
 ·refine Ok.bind (P:=fun y=>y.2=false) (Ok.bind (rchoice_any (s:=s) (by omega)) fun y _=>Ok.grp (Ok.ite (fun _=>Ok.ret rfl) fun _=>?_)) fun y hy=>Ok.ite (fun _=>Ok.ret (.inr ⟨c,rfl⟩)) fun f=>by rw [hy] at f;cases f
  rw [rtext_eq,Option.bind_some]
  refine Ok.grp (Ok.ite (fun _=>Ok.ret rfl) fun f=>?_)
  by_cases hv:PV y.1
  ·rw [if_pos hv] at f
   simp at f
   exact absurd ⟨y.1,hv,f⟩ c
  ·rw [if_neg hv] at f
   simp at f
   exact absurd (err_zero.1 f.1) hv
theorem Tx.lens {s:Str} {y:GNode×Int} (h:Tx s y):Lens y.1:=by
 rcases h with ⟨x,h1,_,rfl⟩|⟨_,rfl⟩
 ·exact h1.rgt.lens (by have:=h1.cnt;omega)
 ·exact .mk _ (small_max (by simp)) (small_max (by simp)) (by simp)
theorem txt_pos {x:GNode} (hx:Rgt x):0<x.txt.length:=by
 revert hx
 refine GNode.ind (P:=fun x=>Rgt x→0<x.txt.length) (fun x ih hx=>?_) x
 have htx:=txt_eq x
 rcases hx.op with h|h|h|h
 ·rw [if_pos h] at htx
  obtain ⟨b,t,e,_⟩:=setT_head x.Ranges
  rw [htx,e];simp
 ·rw [if_neg (by omega),if_pos h,seqT_its] at htx
  rcases hx.ok with g|⟨_,g,_,_,_,g2⟩|⟨g,_⟩
  ·omega
  ·rcases hk:x.Kids with _|⟨k,l⟩
   ·rw [hk] at g;simp at g
   ·have hm:k∈x.Kids:=by rw [hk];simp
    obtain ⟨b,t,e,_⟩:=itT_head (hx.kid hm) (by rw [←h];exact g2 k hm)
    rw [htx,hk];simp [e]
  ·omega
 ·rw [if_neg (by omega),if_neg (by omega),if_pos h] at htx
  rcases hk:x.Kids with _|⟨k,l⟩
  ·rcases hx.ok with g|⟨_,g,_⟩|⟨g,_⟩
   ·omega
   ·rw [hk] at g;simp at g
   ·omega
  ·have hm:k∈x.Kids:=by rw [hk];simp
   have:=ih k hm (hx.kid hm)
   rw [htx,hk];simp [altT];omega
 ·obtain ⟨b,t,e,_⟩:=itT_head hx (by omega)
  unfold itT at e
  rw [if_neg (by omega)] at e
  rw [e];simp
theorem parses05 {tape:List Int} {s:Str} {at_:Int} {by_:UInt8} (ht:(V.sl (tape.map (V.int .i64))).fact):F_25 tape s at_ by_=some true:=by
 have h0:TO (GTape.mk tape 0):=⟨Int.le_refl 0,Int.ofNat_le.2 (fact_sl ht)⟩
 refine Ok.eq ?_
 unfold F_25
 refine Ok.bind (made_pattern h0) fun x hx=>?_
 have hv:PV x.1:=hx.1
 have hl:=txt_len x.1 hv.rgt
 have hc:=hv.cnt
 have hp:=txt_pos hv.rgt
 rw [rtext_eq,if_pos hv,Option.bind_some]
 have hb:=by_.toNat_lt
 refine Ok.ite (fun f=>by cases f) fun _=>?_
 dsimp only
 refine Ok.chk (divs_iff.2 ⟨by omega,by omega⟩) (Ok.chk (divs_iff.2 ⟨by omega,by omega⟩) (Ok.chk (inb_iff.2 ⟨by omega,by simp only [List.length_cons,List.length_nil];omega⟩) (Ok.chk (inb_iff.2 ⟨Int.emod_nonneg _ (by omega),Int.emod_lt_of_pos _ (by omega)⟩) (Ok.chk (strl_s (by simp;omega)) (Ok.chk (strl_s (by simp;omega)) (Ok.chk (strl_s (by simp;omega)) (Ok.chk (strl_s (by simp;omega)) (Ok.chk (inc_iff.2 ⟨by omega,by omega,by omega⟩) ?_))))))))
 refine Ok.bind (Ok.loop (Q:=fun t=>t=.inl ()) (fun i:Int=>0≤i∧i≤7) (fun i=>(7 - i).toNat) (fun i hi=>?_) 0 ⟨by omega,by omega⟩) fun t ht=>?_
 ·unfold F_2h
  refine Ok.ite (fun c=>?_) fun _=>Ok.ret rfl
  have c:i<7:=of_decide_eq_true c
  have hin:∀L:List Str,L.length=7→inb i L.length=true:=fun L e=>inb_iff.2 ⟨hi.1,by rw [e];exact c⟩
  refine Ok.jn (P:=fun o=>o=.nx ()) (Ok.chk (hin _ rfl) (Ok.ite (fun _=>Ok.ret rfl) fun c2=>?_)) fun o ho=>?_
  ·have c2:=of_decide_eq_false c2
   refine Ok.chk (hin _ rfl) (Ok.bind (pparse (by omega)) fun a ha=>Ok.chk (hin _ rfl) (Ok.bind (rparse (by omega)) fun b hb=>?_))
   have e:a=b:=Tx.one (c:=fun _=>a) (fun x y=>txt_inj) ha hb
   subst e
   refine Ok.ite (fun f=>by simp at f) fun _=>?_
   rw [rsame_eq _ _ ha.lens]
   exact Ok.ite (fun f=>by simp at f) fun _=>Ok.ret rfl
  ·subst ho
   rw [Fl_nx]
   exact Ok.chk (in64_s (by omega) (by omega)) (Ok.ret ⟨⟨by omega,by omega⟩,by omega⟩)
 ·subst ht
  rw [Sum_inl,awake05]
  exact Ok.ret rfl
theorem call05p {tape:List Int} {s:Str} {at_:Int} {by_:UInt8}:ACall Tryz.prog 5 [.sl (tape.map (V.int .i64)),.str s,.int .i64 at_,byteV by_] [] (fun r H=>r=.bool true∧H=[]) :=
 acall_fact' (by kernel_rfl) fun h=>Wq_25.w (parses05 (h _ (by simp)))
end Go.Ab
