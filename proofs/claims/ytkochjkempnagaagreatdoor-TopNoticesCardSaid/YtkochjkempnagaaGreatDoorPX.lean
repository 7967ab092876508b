/- Chapter 27: what the functions of access answer, in plain words. -/
import Derived.Test.YtkochjkempnagaaGreatDoorLC
import Derived.Test.YtkochjkempnagaaGreatDoorAbRun
set_option linter.all false
set_option linter.all false
namespace Go.Ab
open Go.Proofs
def xok (P:Int) (x:GAccess):Prop :=
 0≤x.Time∧x.Time≤1099511627776∧0≤x.Place∧x.Place≤P - 1 ∧
 ((x.Kind=1∨x.Kind=2)∧0≤x.Principal∧x.Principal≤23∧x.Until=0∧x.Content=0∧x.From=0 ∨
  x.Kind=3∧x.Time<x.Until∧x.Until≤1099511627776∧x.Principal=0∧x.Content=0∧x.From=0 ∨
  x.Kind=4∧x.Principal=0∧x.Until=0∧x.Content=0∧x.From=0 ∨
  (x.Kind=5∨x.Kind=6)∧0≤x.Content∧x.Content≤63∧x.Principal=0∧x.Until=0∧x.From=0 ∨
  x.Kind=7∧0≤x.From∧x.From≤P - 1∧x.From≠x.Place∧x.Principal=0∧x.Until=0∧x.Content=0)
structure Good (a:GEstate):Prop where
 lo:1≤a.Places
 hi:a.Places≤16
 len:a.Events.length≤120
 ev:∀x∈a.Events,xok a.Places x
 srt:a.Events.Pairwise fun x y=>x.Time≤y.Time
theorem in64_sm {n:Int} (h1:-1000000000000000≤n) (h2:n≤1000000000000000):in64 n=true:=in64_iff.2 ⟨by omega,by omega⟩
theorem Good.sub {a:GEstate} (h:Good a) {l:List GAccess} (hl:l.Sublist a.Events):Good ⟨a.Places,l⟩ :=
 ⟨h.lo,h.hi,wW hl.length_le h.len,fun x hx=>h.ev x (hl.subset hx),h.srt.sublist hl⟩
end Go.Ab
namespace Go.Ab
open Go.Proofs
end Go.Ab
namespace Go.Ab
open Go.Proofs
def TOK (t:GTape):Prop:=0≤t.at_∧t.L.length≤1000
theorem next_ok {t:GTape} {n:Int} (h:TOK t) (hn:0<n):Ok (F_0 t n) fun y=>0≤y.1∧y.1<n∧TOK y.2:=by
  unfold F_0
  refine Ok.ite (fun c=>Ok.ret ⟨Int.le_refl 0,hn,h⟩) fun c=>?_
  have c':t.at_<t.L.length:=by simpa using c
  have h1:=h.1;have h2:=h.2
  refine Ok.chk (inb_iff.2 ⟨h.1,c'⟩) (Ok.chk (in64_sm (by omega) (by omega)) (Ok.chk (divs_iff.2 ⟨Int.emod_nonneg _ (by decide),hn⟩) (Ok.ret ⟨Int.emod_nonneg _ (by omega),Int.emod_lt_of_pos _ hn,?_,h2⟩)))
  show 0≤t.at_+1
  omega
theorem between_ok {t:GTape} {a b:Int} (h:TOK t) (h1:-1000000≤a) (h2:a≤b) (h3:b≤1000000):Ok (F_17 t a b) fun y=>a≤y.1∧y.1≤b∧TOK y.2:=by
  unfold F_17
  refine Ok.chk (in64_sm (by omega) (by omega)) (Ok.chk (in64_sm (by omega) (by omega)) (Ok.bind (next_ok h (by omega)) fun y hy=>Ok.chk (in64_sm (by omega) (by omega)) (Ok.ret ⟨?_,?_,hy.2.2⟩)))
  · show a≤a+y.1;omega
  · show a+y.1≤b;omega
theorem pick_ok {t:GTape} {l:List Int} (h:TOK t) (hl:0<l.length):Ok (F_2i t l) fun y=>y.1∈l∧TOK y.2:=by
  unfold F_2i
  refine Ok.bind (next_ok h (by omega)) fun y hy=>Ok.chk (inb_iff.2 ⟨hy.1,hy.2.1⟩) (Ok.ret ⟨?_,hy.2.2⟩)
  have:y.1.toNat<l.length:=by omega
  simp [this]
theorem room_sm {n b:Nat} (h:n*b≤1000000):room n b=true:=room_iff.2 (by omega)
theorem clock_ok {t:GTape} {n:Int} (h:TOK t) (h0:0≤n) (hn:n≤30):Ok (F_q t n) fun y=>(y.1.length:Int)=n∧y.1.Pairwise (fun a b=>a≤b)∧(∀x∈y.1,0≤x∧x≤3+2*n)∧TOK y.2:=by
  unfold F_q
  refine Ok.bind (next_ok h (by omega)) fun y hy=>?_
  refine Ok.bind (Ok.loop (Q:=fun y:List Int×GTape=>(y.1.length:Int)=n∧y.1.Pairwise (fun a b=>a≤b)∧(∀x∈y.1,0≤x∧x≤3+2*n)∧TOK y.2) (fun x=>x.2.1=x.2.2.1.length∧x.2.1≤n∧x.2.2.1.Pairwise (fun a b=>a≤b)∧(∀z∈x.2.2.1,0≤z∧z≤x.1)∧0≤x.1∧x.1≤3+2*x.2.1∧TOK x.2.2.2) (fun x=>(n - x.2.1).toNat) (fun x hx=>?_) _ ?_) fun r hr=>Ok.ret hr
  · obtain ⟨a,i,out,t⟩:=x
    obtain ⟨h1,h2,h3,h4,h5,h6,h7⟩:=hx
    simp only at h1 h2 h3 h4 h5 h6 h7
    unfold F_3d
    refine Ok.ite (fun c=>?_) fun c=>?_
    · have c:i<n:=by simpa using c
      refine Ok.bind (next_ok h7 (by omega)) fun y hy=>?_
      obtain ⟨y1,y2,y3⟩:=hy
      refine Ok.chk (in64_sm (by simp only;omega) (by simp only;omega)) (Ok.chk (room_sm (by simp;omega)) (Ok.chk (in64_sm (by simp only;omega) (by simp only;omega)) (Ok.ret ?_)))
      simp only [Fl.elim]
      refine ⟨⟨?_,?_,?_,?_,?_,?_,y3⟩,by omega⟩
      · simp;omega
      · omega
      · rw [List.pairwise_append]
        refine ⟨h3,by simp,fun z hz w hw=>?_⟩
        simp at hw
        have:=(h4 z hz).2
        omega
      · intro z hz
        simp only [wD,xD] at hz
        rcases hz with hz|hz
        · have:=h4 z hz;omega
        · omega
      · omega
      · omega
    · have c:¬i<n:=by simpa using c
      refine Ok.ret ?_
      simp only [Fl.elim]
      refine ⟨by omega,h3,fun z hz=>?_,h7⟩
      have:=h4 z hz
      omega
  · simp only [wE]
    refine ⟨rfl,h0,List.Pairwise.nil,by simp,hy.1,by omega,hy.2.2⟩
end Go.Ab
namespace Go.Ab
open Go.Proofs
def mok (d:GDirectory) (x:GMember):Prop :=
 (x.Kind=1∨x.Kind=2)∧0≤x.Time∧x.Time≤1099511627776∧(0≤x.Principal∧x.Principal<d.Kinds.length)∧(0≤x.Group∧x.Group<d.Kinds.length∧d.Kinds.getD x.Group.toNat default=2)∧x.Principal≠x.Group
structure GoodD (d:GDirectory):Prop where
 kl:d.Kinds.length≤24
 el:d.Events.length≤120
 kd:∀k∈d.Kinds,1≤k∧k≤3
 ev:∀x∈d.Events,mok d x
 srt:d.Events.Pairwise fun x y=>x.Time≤y.Time
theorem dexists_eq (d:GDirectory) (p:Int):F_1x d p=some (decide (0≤p∧p<d.Kinds.length)):=by simp [F_1x,grp]
theorem dgroup_eq (d:GDirectory) (p:Int):F_3c d p=some (decide (0≤p∧p<d.Kinds.length∧d.Kinds.getD p.toNat default=2)):=by
 simp only [F_3c,dexists_eq,xU,jn]
 by_cases c:0≤p∧p<d.Kinds.length
 ·simp [c,chk_true (inb_iff.2 c)]
 ·have:¬(0≤p∧p<(d.Kinds.length:Int)∧d.Kinds.getD p.toNat default=2):=fun h=>c ⟨h.1,h.2.1⟩
  simp only [x7 c,x7 this,vB,xU]
def dchain (d:GDirectory):Int→List GMember→Prop
 | _,[]=>True
 | last,x::r=>(last≤x.Time∧mok d x)∧dchain d x.Time r
theorem dchain_iff {d:GDirectory}:∀{l:List GMember} {last:Int},dchain d last l↔((∀x∈l,last≤x.Time∧mok d x)∧l.Pairwise fun x y=>x.Time≤y.Time)
 | [],_=>by simp [dchain]
 | x::r,last=>by
  simp only [dchain,dchain_iff,wO,List.pairwise_cons]
  constructor
  ·rintro ⟨h1,h2,h3⟩
   refine ⟨fun y hy=>?_,fun y hy=>(h2 y hy).1,h3⟩
   rcases hy with rfl|hy
   ·exact h1
   ·have:=h1.1
    exact ⟨by have:=(h2 y hy).1;omega,(h2 y hy).2⟩
  ·rintro ⟨h1,h2,h3⟩
   exact ⟨h1 x (.inl rfl),fun y hy=>⟨h2 y hy,(h1 y (.inr hy)).2⟩,h3⟩
theorem dchkL_eq (d:GDirectory):∀(l:List GMember) (k last:Int),0≤last→∃o,forL (F_2g d) l k last=some o∧(dchain d last l→∃s,o=.nx s)∧(¬dchain d last l→o=.ex 30)
 | [],k,last,_=>⟨.nx last,rfl,fun _=>⟨_,rfl⟩,fun h=>absurd trivial h⟩
 | x :: r,k,last,h0=>by
  simp only [forL,F_2g,grp,dexists_eq,dgroup_eq,jn]
  by_cases c:last≤x.Time∧mok d x
  ·obtain ⟨c1,c2,c3,c4,c5,c6,c7⟩:=c
   have e1:(!decide (x.Kind=1)&&!decide (x.Kind=2))=false:=by
    rcases c2 with h|h<;>simp [h]
   have e2:decide (x.Time<last)=false:=x7 (by omega)
   have e3:decide (1099511627776<x.Time)=false:=x7 (by omega)
   simp only [e1,e2,e3,Bool.or_self,vB,xU,wK c5,wQ,wK c6,x7 c7,Fl_nx]
   obtain ⟨o,h1,h2,h3⟩:=dchkL_eq d r (k+1) x.Time c3
   refine ⟨o,h1,fun h=>h2 h.2,fun h=>h3 fun hc=>h ⟨⟨c1,c2,c3,c4,c5,c6,c7⟩,hc⟩⟩
  ·refine ⟨.ex 30,?_,fun h=>absurd h.1 c,fun _=>rfl⟩
   by_cases d1:x.Kind=1∨x.Kind=2
   ·have e1:(!decide (x.Kind=1)&&!decide (x.Kind=2))=false:=by
     rcases d1 with h|h<;>simp [h]
    by_cases d2:x.Time<last∨1099511627776<x.Time
    ·have:(decide (x.Time<last)||decide (1099511627776<x.Time))=true:=by simpa using d2
     simp only [e1,wR,this,vD,xU,Fl_ex]
    ·have:(decide (x.Time<last)||decide (1099511627776<x.Time))=false:=by
      simp only [z8,zK];omega
     simp only [e1,wR,this,vB,xU]
     by_cases d3:0≤x.Principal∧x.Principal<d.Kinds.length
     ·simp only [wK d3,wQ,vB]
      by_cases d4:0≤x.Group∧x.Group<d.Kinds.length∧d.Kinds.getD x.Group.toNat default=2
      ·have d5:x.Principal=x.Group:=Classical.byContradiction fun hne=>c ⟨by omega,d1,by omega,by omega,d3,d4,hne⟩
       simp only [wK d4,wK d5,wQ,wR,vD,xU,Fl_ex]
      ·simp only [x7 d4,wM,Bool.true_or,vD,xU,Fl_ex]
     ·simp only [x7 d3,wM,vD,xU,Fl_ex]
   ·have e1:(!decide (x.Kind=1)&&!decide (x.Kind=2))=true:=by
     simp only [not_or] at d1
     simp [d1.1,d1.2]
    simp only [e1,Bool.true_or,vD,xU,Fl_ex]
theorem find_negD {α:Type} {body:Int→α→Unit→Option (Fl Unit Int)} (p:α→Prop) [DecidablePred p] (h:∀k x,body k x ()=some (if p x then .ex k else .nx ())):∀(xs:List α) (k:Int),0≤k →
  ∃o,forL body xs k ()=some o∧((∃x∈xs,p x)→∃r,o=.ex r∧0≤r)∧((∀x∈xs,¬p x)→o=.nx ())
 | [],k,hk=>⟨.nx (),rfl,fun ⟨x,hx,_⟩=>by simp at hx,fun _=>rfl⟩
 | x::r,k,hk=>by
  simp only [forL,h]
  by_cases c:p x
  ·simp only [if_pos c,xU,Fl_ex]
   exact ⟨_,rfl,fun _=>⟨k,rfl,hk⟩,fun hn=>absurd c (hn x (by simp))⟩
  ·simp only [if_neg c,xU,Fl_nx]
   obtain ⟨o,h1,h2,h3⟩:=find_negD p h r (k+1) (by omega)
   refine ⟨o,h1,fun ⟨y,hy,hp⟩=>?_,fun hn=>h3 fun y hy=>hn y (by simp [hy])⟩
   rcases wO.1 hy with rfl|hy
   ·exact absurd hp c
   ·exact h2 ⟨y,hy,hp⟩
theorem contains_ofD {α:Type} {body:Int→α→Unit→Option (Fl Unit Int)} (p:α→Prop) [DecidablePred p] (xs:List α) [Decidable (∃x∈xs,p x)] (h:∀k x,body k x ()=some (if p x then .ex k else .nx ())) :
  (((forL body xs 0 ()).bind fun o=>o.elim (fun _=>some (-1)) fun r=>some r).bind fun y=>some (decide (0≤y)))=some (decide (∃x∈xs,p x)):=by
 obtain ⟨o,h1,h2,h3⟩:=find_negD p h xs 0 (Int.le_refl 0)
 rw [h1]
 by_cases c:∃x∈xs,p x
 ·obtain ⟨r,rfl,hr⟩:=h2 c
  simp only [xU,Fl_ex,wK hr,wK c]
 ·have:=h3 fun x hx hp=>c ⟨x,hx,hp⟩
  subst this
  simp only [xU,Fl_nx,x7 c]
  rfl
theorem dcont_eq (s:List Int) (v:Int):F_16 s v=some (decide (v∈s)):=by
 have h:=contains_ofD (body:=F_2h v) (fun y=>v=y) s fun k y=>by
  by_cases c:v=y<;>simp [F_2h,c]
 have e:decide (∃y∈s,v=y)=decide (v∈s):=decide_eq_decide.2 ⟨fun ⟨y,hy,e⟩=>e▸hy,fun h=>⟨v,h,rfl⟩⟩
 rw [e] at h
 exact h
theorem goodD_iff (d:GDirectory):GoodD d↔d.Kinds.length≤24∧d.Events.length≤120∧(∀k∈d.Kinds,1≤k∧k≤3)∧dchain d 0 d.Events:=by
 rw [dchain_iff]
 exact ⟨fun h=>⟨h.kl,h.el,h.kd,fun x hx=>⟨(h.ev x hx).2.1,h.ev x hx⟩,h.srt⟩,fun ⟨h1,h2,h3,h4,h5⟩=>⟨h1,h2,h3,fun x hx=>(h4 x hx).2,h5⟩⟩
open Classical in
theorem dcheck_eq (d:GDirectory):F_5 d=some (if GoodD d then 0 else 30):=by
 simp only [F_5,grp]
 by_cases h1:d.Kinds.length≤24∧d.Events.length≤120
 ·have e1:(decide (24<(d.Kinds.length:Int))||decide (120<(d.Events.length:Int)))=false:=by
   simp only [z8,zK];omega
  have e2:F_3x d.Kinds=some (decide (∃k∈d.Kinds,¬(1≤k∧k≤3))):=by
   refine contains_ofD (fun k=>¬(1≤k∧k≤3)) d.Kinds fun k x=>?_
   simp only [F_3b,F_3w,grp,xU]
   by_cases c:1≤x∧x≤3
   ·have:(decide (x<1)||decide (3<x))=false:=by simp only [z8,zK];omega
    simp [this,c]
   ·have:(decide (x<1)||decide (3<x))=true:=by simp only [wI,xJ];omega
    simp only [this,vD,c,not_false_eq_true,if_true]
  simp only [e1,e2,vB,xU]
  by_cases q:∃k∈d.Kinds,¬(1≤k∧k≤3)
  ·have:¬GoodD d:=fun h=>by obtain ⟨k,hk,hn⟩:=q;exact hn (h.kd k hk)
   simp only [wK q,vD,if_neg this]
  ·simp only [x7 q,vB]
   have q':∀k∈d.Kinds,1≤k∧k≤3:=fun k hk=>Classical.byContradiction fun hn=>q ⟨k,hk,hn⟩
   obtain ⟨o,k1,k2,k3⟩:=dchkL_eq d d.Events 0 0 (Int.le_refl 0)
   rw [k1]
   by_cases c:dchain d 0 d.Events
   ·obtain ⟨s,rfl⟩:=k2 c
    simp only [xU,Fl_nx,if_pos ((goodD_iff d).2 ⟨h1.1,h1.2,q',c⟩)]
   ·rw [k3 c]
    have:¬GoodD d:=fun h=>c ((goodD_iff d).1 h).2.2.2
    simp only [xU,Fl_ex,if_neg this]
 ·have e1:(decide (24<(d.Kinds.length:Int))||decide (120<(d.Events.length:Int)))=true:=by
   simp only [wI,xJ];omega
  have:¬GoodD d:=fun h=>h1 ⟨h.kl,h.el⟩
  simp only [e1,vD,if_neg this]
end Go.Ab
namespace Go.Ab
open Go.Proofs
theorem dir_ok {t:GTape} (h:TOK t):Ok (F_9 t) fun y=>GoodD y.1∧1≤y.1.Kinds.length∧y.1.Kinds.length≤7∧y.1.Events.length≤11∧(∀x∈y.1.Events,x.Time≤25)∧TOK y.2:=by
 unfold F_9
 refine Ok.bind (between_ok h (by omega) (by omega) (by omega)) fun y hy=>?_
 refine Ok.bind (Ok.loop (Q:=fun y:List Int×GTape=>1≤y.1.length∧y.1.length≤7∧(∀k∈y.1,1≤k∧k≤3)∧TOK y.2) (fun x=>0≤x.1∧(x.2.1.length:Int)+x.1≤7∧1≤x.2.1.length∧(∀k∈x.2.1,1≤k∧k≤3)∧TOK x.2.2) (fun x=>x.1.toNat) (fun x hx=>?_) _ ?_) fun r hr=>?_
 ·obtain ⟨k,out,t⟩:=x
  obtain ⟨h1,h2,h3,h3',h4⟩:=hx
  simp only at h1 h2 h3 h3' h4
  unfold F_18
  refine Ok.ite (fun c=>?_) fun c=>?_
  ·have c:0<k:=by simpa using c
   refine Ok.bind (pick_ok h4 (by simp)) fun y hy=>?_
   refine Ok.chk (room_sm (by simp;omega)) (Ok.chk (in64_sm (by simp only;omega) (by simp only;omega)) (Ok.ret ?_))
   simp only [Fl.elim]
   have hm:=hy.1
   simp only [wO,List.not_mem_nil,or_false] at hm
   refine ⟨⟨by omega,by simp;omega,by simp,fun q hq=>?_,hy.2⟩,by omega⟩
   simp only [wD,xD] at hq
   rcases hq with hq|rfl
   ·exact h3' q hq
   ·omega
  ·refine Ok.ret ?_
   simp only [Fl.elim]
   exact ⟨h3,by omega,h3',h4⟩
 ·exact ⟨by show 0≤y.1;omega,by show ((1:Nat):Int)+y.1≤7;omega,by simp,by simp,hy.2.2⟩
 ·obtain ⟨r1,r2,r2',r3⟩:=hr
  refine Ok.bind (Ok.foldI (all:=r.1) (Q:=fun x:List Int=>x.length≤7∧∀k∈x,0≤k∧k<r.1.length∧r.1.getD k.toNat default=2) (fun pre x=>x.length≤pre.length∧∀k∈x,0≤k∧k<r.1.length∧r.1.getD k.toNat default=2) r.1 [] 0 [] rfl rfl (by simp) (fun pre x q s hw hs=>?_) fun s hs=>⟨by omega,hs.2⟩) fun gs hg=>?_
  ·unfold F_1y
   have hp:pre.length<r.1.length:=by rw [hw];simp
   have hx:r.1.getD pre.length default=x:=by rw [hw];simp
   refine Ok.ite (fun c=>Ok.chk (room_sm (by simp;omega)) (Ok.ret ⟨by simp;omega,fun k hk=>?_⟩)) fun c=>Ok.ret ⟨by simp;omega,hs.2⟩
   simp only [wD,xD] at hk
   rcases hk with hk|rfl
   ·exact hs.2 k hk
   ·refine ⟨by omega,by omega,?_⟩
    rw [xQ,hx];simpa using c
  ·have gd0:GoodD ⟨r.1,[]⟩:=⟨by show r.1.length≤24;omega,by simp,r2',by simp,List.Pairwise.nil⟩
   refine Ok.ite (fun c=>Ok.ret ⟨gd0,r1,r2,by simp,by simp,r3⟩) fun c=>?_
   have c:¬(gs.length:Int)=0:=by simpa using c
   refine Ok.bind (next_ok r3 (by omega)) fun y hy=>Ok.bind (clock_ok hy.2.2 hy.1 (by omega)) fun z hz=>?_
   obtain ⟨z1,z2,z3,z4⟩:=hz
   refine Ok.bind (Ok.foldI (all:=z.1) (Q:=fun x:List GMember×GTape=>x.1.length≤z.1.length∧(∀e∈x.1,mok ⟨r.1,[]⟩ e∧e.Time∈z.1)∧x.1.Pairwise (fun a b=>a.Time≤b.Time)∧TOK x.2)
    (fun pre x=>x.1.length≤pre.length∧(∀e∈x.1,mok ⟨r.1,[]⟩ e∧e.Time∈pre)∧x.1.Pairwise (fun a b=>a.Time≤b.Time)∧TOK x.2) z.1 [] 0 _ rfl rfl ⟨by simp,by simp,List.Pairwise.nil,z4⟩ (fun pre x q s hw hs=>?_) fun s hs=>hs) fun s hs=>Ok.ret ?_
   ·unfold F_3g
    obtain ⟨s1,s2,s3,s4⟩:=hs
    have hc:=z3 x (by rw [hw];simp)
    have hpre:∀e∈pre,e≤x:=fun e he=>by rw [hw,List.pairwise_append] at z2;exact z2.2.2 e he x (by simp)
    have hp:pre.length≤30:=by have:=congrArg List.length hw;simp at this;omega
    refine Ok.bind (next_ok s4 (by omega)) fun a ha=>Ok.bind (next_ok ha.2.2 (by omega)) fun b hb=>Ok.chk (inb_iff.2 ⟨hb.1,hb.2.1⟩) ?_
    have hgm:gs.getD b.1.toNat default∈gs:=by
     have h1:b.1.toNat<gs.length:=by have:=hb.1;have:=hb.2.1;omega
     simp [zE,h1]
    obtain ⟨g1,g2,g3⟩:=hg.2 _ hgm
    refine Ok.jn (P:=fun j:GMember×GTape=>(j.1.Kind=1∨j.1.Kind=2)∧j.1.Time=x∧j.1.Principal=a.1∧j.1.Group=gs.getD b.1.toNat default∧TOK j.2) (Ok.bind (next_ok hb.2.2 (by omega)) fun d hd=>Ok.ite (fun _=>Ok.ret ⟨.inr rfl,rfl,rfl,rfl,hd.2.2⟩) fun _=>Ok.ret ⟨.inl rfl,rfl,rfl,rfl,hd.2.2⟩) fun j hj=>?_
    obtain ⟨j1,j2,j3,j4,j5⟩:=hj
    refine Ok.ite (fun c=>Ok.chk (room_sm (by simp;omega)) (Ok.ret ⟨by simp;omega,fun e he=>?_,?_,j5⟩)) fun c=>Ok.ret ⟨by simp;omega,fun e he=>⟨(s2 e he).1,by simp [(s2 e he).2]⟩,s3,j5⟩
    ·have c:¬j.1.Principal=j.1.Group:=by simpa using c
     simp only [wD,xD] at he ⊢
     rcases he with he|rfl
     ·exact ⟨(s2 e he).1,.inl (s2 e he).2⟩
     ·refine ⟨⟨j1,by omega,by omega,?_,?_,c⟩,.inr j2⟩
      ·show 0≤j.1.Principal∧j.1.Principal<r.1.length
       rw [j3];exact ⟨ha.1,ha.2.1⟩
      ·show 0≤j.1.Group∧j.1.Group<r.1.length∧r.1.getD j.1.Group.toNat default=2
       rw [j4];exact ⟨g1,g2,g3⟩
    ·rw [List.pairwise_append]
     refine ⟨s3,by simp,fun e he w hw2=>?_⟩
     simp only [xD] at hw2
     subst hw2
     rw [j2];exact hpre _ (s2 e he).2
   ·obtain ⟨s1,s2,s3,s4⟩:=hs
    have ht:∀e∈s.1,e.Time≤25:=fun e he=>by have:=z3 _ (s2 e he).2;omega
    exact ⟨⟨by show r.1.length≤24;omega,by show s.1.length≤120;omega,r2',fun e he=>(s2 e he).1,s3⟩,r1,r2,by show s.1.length≤11;omega,ht,s4⟩
end Go.Ab
