/- The calendar in plain words: which ticks are working, how many lie between two ticks, and that there are always four more within five hundred. -/
import Derived.Test.YtkochjkempnagaaGreatDoorPX
import Derived.Test.YtkochjkempnagaaGreatDoorLC
set_option linter.all false
set_option linter.all false
namespace Go.Ab
open Go.Proofs
structure GC (c:GCalendar):Prop where
 d1:1≤c.Day
 d2:c.Day≤12
 f0:0≤c.From
 ft:c.From<c.To
 td:c.To≤c.Day
 wk:c.Week=31∨c.Week=127∨c.Week=62∨c.Week=1
 ho:∀x∈c.Holidays,0≤x∧x<12
 hl:(c.Holidays.length:Int)≤12
 ha:c.Holidays.Pairwise (fun a b=>a<b)
theorem few_ok {t:GTape} (h:TOK t):Ok (F_r t 12 4) fun y=>(∀x∈y.1,0≤x∧x<12)∧(y.1.length:Int)≤12∧y.1.Pairwise (fun a b=>a<b)∧TOK y.2:=by
 simp only [F_r]
 refine Ok.bind (P:=fun y:List Int×GTape=>(∀x∈y.1,0≤x∧x<12)∧(y.1.length:Int)≤12∧y.1.Pairwise (fun a b=>a<b)∧TOK y.2) (Ok.loop (fun s=>(0≤s.1∧s.1≤12)∧(s.2.1.length:Int)≤s.1∧(∀x∈s.2.1,0≤x∧x<s.1)∧s.2.1.Pairwise (fun a b=>a<b)∧TOK s.2.2) (fun s=>(12 - s.1).toNat) (fun s hs=>?_) _ ⟨by omega,by simp,by simp,by simp,h⟩) fun y hy=>Ok.ret hy
 obtain ⟨h1,h3,h4,h5,h6⟩:=hs
 simp only [F_3e]
 refine Ok.ite (fun c=>?_) (fun c=>?_)
 ·have c:=of_decide_eq_true c
  refine Ok.jn (P:=fun y=>(y.1=s.2.1∨y.1=s.2.1++[s.1])∧TOK y.2) (Ok.bind (next_ok h6 (by omega)) fun y hy=>Ok.chk (in64_sm (by omega) (by omega)) (Ok.ite (fun _=>Ok.chk (room_sm (by simp;omega)) (Ok.ret ⟨.inr rfl,hy.2.2⟩)) fun _=>Ok.ret ⟨.inl rfl,hy.2.2⟩)) fun y hy=>Ok.chk (in64_sm (by omega) (by omega)) (Ok.ret ⟨⟨by omega,?_,?_,?_,hy.2⟩,by show (12 - (s.1+1)).toNat<(12 - s.1).toNat;omega⟩)
  ·show (y.1.length:Int)≤s.1+1
   rcases hy.1 with e|e<;>rw [e]<;>(try simp)<;>omega
  ·show ∀x∈y.1,0≤x∧x<s.1+1
   rcases hy.1 with e|e<;>rw [e]
   ·intro x hx;have:=h4 x hx;omega
   ·intro x hx
    rcases wD.1 hx with hx|hx
    ·have:=h4 x hx;omega
    ·simp only [xD] at hx;omega
  ·show y.1.Pairwise (fun a b=>a<b)
   rcases hy.1 with e|e<;>rw [e]
   ·exact h5
   ·rw [List.pairwise_append]
    exact ⟨h5,by simp,fun a ha b hb=>by simp only [xD] at hb;have:=h4 a ha;omega⟩
 ·have c:=of_decide_eq_false c
  exact Ok.ret ⟨fun x hx=>by have:=h4 x hx;omega,by show (s.2.1.length:Int)≤12;omega,h5,h6⟩
theorem calendar_ok {t:GTape} (h:TOK t):Ok (F_3f t) fun y=>GC y.1∧TOK y.2:=by
 simp only [F_3f]
 refine Ok.bind (between_ok h (by omega) (by omega) (by omega)) fun a ha=>?_
 refine Ok.bind (pick_ok ha.2.2 (by simp)) fun b hb=>?_
 refine Ok.bind (next_ok hb.2 (by omega)) fun f hf=>?_
 refine Ok.chk (in64_sm (by omega) (by omega)) ?_
 refine Ok.bind (between_ok hf.2.2 (by omega) (by omega) (by omega)) fun g hg=>?_
 refine Ok.bind (few_ok hg.2.2) fun e he=>Ok.ret ⟨⟨ha.1,ha.2.1,hf.1,by show f.1<g.1;omega,hg.2.1,?_,he.1,he.2.1,he.2.2.1⟩,he.2.2.2⟩
 have:=hb.1
 simp only [wO,List.not_mem_nil,or_false] at this
 show b.1=31∨b.1=127∨b.1=62∨b.1=1
 omega
theorem camong_eq (n lo hi:Int):F_1i n lo hi=some (decide (lo≤n∧n≤hi)):=by
 simp [F_1i,grp]
theorem ascending_ok {l:List Int} (h:l.Pairwise (fun a b=>a<b)) (hl:(l.length:Int)≤1000):F_1j l=some true:=by
 apply Ok.eq
 simp only [F_1j]
 refine Ok.bind (P:=fun y=>y=.inl ()) (Ok.loop (fun s=>1≤s) (fun s=>((l.length:Int) - s).toNat) (fun s hs=>?_) _ (by omega)) fun y hy=>by subst hy;exact Ok.ret rfl
 simp only [F_3m]
 refine Ok.ite (fun c=>?_) (fun c=>Ok.ret rfl)
 have c:=of_decide_eq_true c
 obtain ⟨n,rfl⟩:∃n:Nat,s=(n:Int)+1:=⟨(s - 1).toNat,by omega⟩
 have e1:((n:Int)+1 - 1)=n:=by omega
 have e2:((n:Int)+1).toNat=n+1:=by omega
 rw [e1]
 refine Ok.chk (in64_sm (by omega) (by omega)) (Ok.chk (inb_iff.2 (by omega)) (Ok.chk (inb_iff.2 (by omega)) (Ok.ite (fun d=>?_) fun d=>Ok.chk (in64_sm (by omega) (by omega)) (Ok.ret ⟨by omega,by omega⟩))))
 exfalso
 have d:=of_decide_eq_true d
 rw [e2,xQ] at d
 have p:=List.pairwise_iff_getElem.1 h n (n+1) (by omega) (by omega) (by omega)
 rw [zE,zE,zJ (by omega),zJ (by omega)] at d
 simp only [xS] at d
 omega
theorem ccheck_ok {c:GCalendar} (h:GC c):F_24 c=some 0:=by
 have a:=ascending_ok h.ha (by have:=h.hl;omega)
 have:=h.d1;have:=h.d2;have:=h.f0;have:=h.ft;have:=h.td;have:=h.hl
 have w:0≤c.Week∧c.Week≤127:=by rcases h.wk with e|e|e|e<;>omega
 have e1:(!decide (1≤c.Day∧c.Day≤48))=false:=by simp;omega
 have e2:decide (c.From<0)=false:=x7 (by omega)
 have e3:decide (c.To≤c.From)=false:=x7 (by omega)
 have e4:decide (c.Day<c.To)=false:=x7 (by omega)
 have e5:(!decide (0≤c.Week∧c.Week≤127))=false:=by simp;omega
 have e6:decide (40<(c.Holidays.length:Int))=false:=x7 (by omega)
 simp only [F_24,camong_eq,xU,grp,e1,e2,e3,e4,e5,e6,wR,vB,a,wQ]
 cases hh:c.Holidays with
 | nil=>rfl
 | cons x r =>
  have q:=(h.ho x (by rw [hh];simp)).1
  have q2:decide (0<((x::r).length:Int))=true:=wK (by simp)
  rw [q2,vD,chk_true (inb_iff.2 (by simp))]
  simp only [List.getD_cons_zero]
  rw [x7 (by omega)];rfl
theorem bsearch_ok {l:List Int} (v:Int) (hl:(l.length:Int)≤1000):Ok (F_1l l v) fun y=>y.2=true→v∈l:=by
 simp only [F_1l]
 refine Ok.bind (P:=fun y:Int=>0≤y∧y≤l.length) (Ok.loop (fun s:Int×Int=>0≤s.1∧s.1≤s.2∧s.2≤l.length) (fun s=>(s.2 - s.1).toNat) (fun s hs=>?_) (0,(l.length:Int)) ⟨by show (0:Int)≤0;omega,by show (0:Int)≤l.length;omega,by show (l.length:Int)≤l.length;omega⟩) fun y hy=>?_
 ·obtain ⟨h1,h2,h3⟩:=hs
  simp only [F_3o]
  refine Ok.ite (fun c=>?_) (fun c=>Ok.ret ⟨h1,by omega⟩)
  have c:=of_decide_eq_true c
  have e1:IntKind.wrap .u64 (s.1+s.2)=s.1+s.2:=by simp only [IntKind.wrap,IntKind.signed,IntKind.bits];simp;omega
  have e2:IntKind.wrap .i64 ((s.1+s.2) / 2^1)=(s.1+s.2) / 2:=by simp only [IntKind.wrap,IntKind.signed,IntKind.bits];simp;omega
  rw [e1,e2]
  refine Ok.chk (in64_sm (by omega) (by omega)) (Ok.chk (inb_iff.2 (by omega)) (Ok.bind (P:=fun _=>True) ?_ fun y _=>Ok.ite (fun _=>Ok.chk (in64_sm (by omega) (by omega)) (Ok.ret ⟨⟨by omega,by omega,h3⟩,by show (s.2 - ((s.1+s.2) / 2+1)).toNat<(s.2 - s.1).toNat;omega⟩)) fun _=>Ok.ret ⟨⟨h1,by show s.1≤(s.1+s.2) / 2;omega,by show (s.1+s.2) / 2≤l.length;omega⟩,by show ((s.1+s.2) / 2 - s.1).toNat<(s.2 - s.1).toNat;omega⟩))
  simp only [F_4b,F_v,jn,grp,xU,decide_true,wQ,vB,wR]
  exact Ok.ret trivial
 ·have nn:∀x,F_2z x=some false:=fun x=>by simp [F_2z]
  refine Ok.jn (P:=fun b=>b=true→v∈l) (Ok.ite (fun c=>?_) fun c=>Ok.ret (by simp)) fun b hb=>Ok.ret hb
  have c:=of_decide_eq_true c
  refine Ok.chk (inb_iff.2 (by omega)) (Ok.ite (fun d=>Ok.ret fun _=>?_) fun d=>Ok.chk (inb_iff.2 (by omega)) (by rw [nn];exact Ok.ret (by simp)))
  have d:=of_decide_eq_true d
  rw [←d,zE,zJ (by omega)]
  exact xY _
noncomputable def wkB (c:GCalendar) (t:Int):Bool:=(F_1m c t).getD false
theorem work_ok {c:GCalendar} (h:GC c) {t:Int} (h0:0≤t) (h1:t≤2000000000000):Ok (F_1m c t) fun b=>12≤t / c.Day→c.From≤t % c.Day→t % c.Day<c.To→c.Week / 2^(t / c.Day % 7).toNat % 2=1→b=true:=by
 have:=h.d1
 have hd:0≤t / c.Day:=Int.ediv_nonneg h0 (by omega)
 simp only [F_1m]
 have q:divs t c.Day=true:=divs_iff.2 ⟨h0,by omega⟩
 refine Ok.chk q (Ok.chk q (Ok.bind (bsearch_ok _ (by have:=h.hl;omega)) fun y hy=>?_))
 refine Ok.grp (Ok.jn (P:=fun b=>c.From≤t % c.Day→t % c.Day<c.To→c.Week / 2^(t / c.Day % 7).toNat % 2=1→b=true) (Ok.ite (fun e=>?_) fun e=>Ok.ret fun a1 a2=>?_) fun b hb=>Ok.grp (Ok.ret fun a0 a1 a2 a3=>?_))
 ·refine Ok.chk (divs_iff.2 ⟨hd,by omega⟩) (Ok.chk ?_ (Ok.ret fun _ _ a3=>wK (by simpa using a3)))
  have:0≤t / c.Day % 7:=Int.emod_nonneg _ (by omega)
  have:t / c.Day % 7<7:=Int.emod_lt_of_pos _ (by omega)
  unfold shok;rw [wK (by omega:0≤t / c.Day % 7),wK (by omega:t / c.Day % 7≤((64:Nat):Int))];rfl
 ·simp at e;omega
 ·rw [hb a1 a2 a3]
  cases hh:y.2 with
  | false=>rfl
  | true=>have:=h.ho _ (hy hh);omega
theorem work_eq {c:GCalendar} (h:GC c) {t:Int} (h0:0≤t) (h1:t≤2000000000000):F_1m c t=some (wkB c t):=by
 obtain ⟨y,e,_⟩:=work_ok h h0 h1
 rw [wkB,e];rfl
theorem work_at {c:GCalendar} (h:GC c) {d:Int} (h0:12≤d) (h1:d≤100000) (hw:c.Week / 2^(d % 7).toNat % 2=1):wkB c (d*c.Day+c.From)=true:=by
 have:=h.d1;have:=h.d2;have:=h.f0;have:=h.ft;have:=h.td
 have e1:(d*c.Day+c.From) / c.Day=d:=by
  rw [Int.mul_comm,Int.mul_add_ediv_left _ _ (by omega),Int.ediv_eq_zero_of_lt (by omega) (by omega),Int.add_zero]
 have e2:(d*c.Day+c.From) % c.Day=c.From:=by
  rw [Int.mul_comm,Int.mul_add_emod_self_left,Int.emod_eq_of_lt (by omega) (by omega)]
 have m1:0≤d*c.Day:=Int.mul_nonneg (by omega) (by omega)
 have m2:d*c.Day≤100000*12:=Int.mul_le_mul h1 h.d2 (by omega) (by omega)
 obtain ⟨y,e,hy⟩:=work_ok h (t:=d*c.Day+c.From) (by omega) (by omega)
 rw [wkB,e]
 exact hy (by rw [e1];exact h0) (by rw [e2];omega) (by rw [e2];omega) (by rw [e1];exact hw)
noncomputable def cw (c:GCalendar) (a:Int):Nat→Nat
 | 0=>0
 | k+1=>cw c a k+bif wkB c (a+k) then 1 else 0
theorem cw_mono {c:GCalendar} {a:Int} {k m:Nat} (h:k≤m):cw c a k≤cw c a m:=by
 induction m with
 | zero =>
  obtain rfl:k=0:=by omega
  exact w9 _
 | succ m ih =>
  by_cases e:k=m+1
  ·subst e;exact w9 _
  ·have:=ih (by omega)
   simp only [cw];omega
theorem cw_step {c:GCalendar} {a:Int} {k m:Nat} {n:Nat} (h:n≤cw c a k) (hk:k≤m) (hw:wkB c (a+m)=true):n+1≤cw c a (m+1):=by
 have:=cw_mono (c:=c) (a:=a) hk
 simp only [cw,hw,vD];omega
theorem cw_le {c:GCalendar} {a:Int}:∀k:Nat,cw c a k≤k
 | 0=>w9 _
 | k+1=>by
  have:=cw_le (c:=c) (a:=a) k
  simp only [cw]
  cases wkB c (a+k)<;>simp<;>omega
theorem week_bit {c:GCalendar} (h:GC c):∃j:Int,0≤j∧j<7∧∀d:Int,d % 7=j→c.Week / 2^(d % 7).toNat % 2=1:=by
 rcases h.wk with e|e|e|e
 ·exact ⟨0,by omega,by omega,fun d hd=>by rw [e,hd];rfl⟩
 ·exact ⟨0,by omega,by omega,fun d hd=>by rw [e,hd];rfl⟩
 ·exact ⟨1,by omega,by omega,fun d hd=>by rw [e,hd];rfl⟩
 ·exact ⟨0,by omega,by omega,fun d hd=>by rw [e,hd];rfl⟩
theorem four_more {c:GCalendar} (h:GC c) {t:Int} (h0:0≤t) (h1:t≤20000):4≤cw c t 500:=by
 have d1:=h.d1;have d2:=h.d2;have f0:=h.f0;have ft:=h.ft;have td:=h.td
 obtain ⟨j,j0,j7,hj⟩:=week_bit h
 obtain ⟨d,g0,g1,g2,g3⟩:∃d:Int,12≤d∧d % 7=j∧t / c.Day+1≤d∧(d≤t / c.Day+7∨d≤18):=by
  by_cases e:12≤t / c.Day+1
  ·exact ⟨t / c.Day+1+(j - (t / c.Day+1)) % 7,by omega,by omega,by omega,by omega⟩
  ·exact ⟨12+(j - 12) % 7,by omega,by omega,by omega,by omega⟩
 have q1:=Int.mul_ediv_add_emod t c.Day
 have q2:=Int.emod_nonneg t (b:=c.Day) (by omega)
 have q3:=Int.emod_lt_of_pos t (b:=c.Day) (by omega)
 have q0:0≤t / c.Day:=Int.ediv_nonneg h0 (by omega)
 have q4:t / c.Day≤t:=Int.ediv_le_self _ h0
 have m1:(t / c.Day+1)*c.Day≤d*c.Day:=Int.mul_le_mul_of_nonneg_right g2 (by omega)
 have m2:d*c.Day≤(t / c.Day+7)*c.Day∨d*c.Day≤18*c.Day:=by
  rcases g3 with g|g
  ·exact .inl (Int.mul_le_mul_of_nonneg_right g (by omega))
  ·exact .inr (Int.mul_le_mul_of_nonneg_right g (by omega))
 rw [Int.add_mul,Int.mul_comm (t / c.Day)] at m1
 rw [Int.add_mul,Int.mul_comm (t / c.Day)] at m2
 have at_:∀i:Int,0≤i→i≤3→∃k:Nat,t+(k:Int)=(d+7*i)*c.Day+c.From∧(k:Int)=d*c.Day+7*i*c.Day+c.From - t∧wkB c (t+k)=true:=fun i i0 i3=>by
  have:0≤i*c.Day:=Int.mul_nonneg i0 (by omega)
  have e:(d+7*i)*c.Day=d*c.Day+7*i*c.Day:=Int.add_mul _ _ _
  have e':7*i*c.Day=7*(i*c.Day):=Int.mul_assoc _ _ _
  refine ⟨(d*c.Day+7*i*c.Day+c.From - t).toNat,by omega,by omega,?_⟩
  rw [show t+((d*c.Day+7*i*c.Day+c.From - t).toNat:Int)=(d+7*i)*c.Day+c.From by omega]
  exact work_at h (by omega) (by omega) (hj _ (by omega))
 obtain ⟨k0,a0,b0,w0⟩:=at_ 0 (by omega) (by omega)
 obtain ⟨k1,a1,b1,w1⟩:=at_ 1 (by omega) (by omega)
 obtain ⟨k2,a2,b2,w2⟩:=at_ 2 (by omega) (by omega)
 obtain ⟨k3,a3,b3,w3⟩:=at_ 3 (by omega) (by omega)
 have s0:=cw_step (n:=0) (w7 _) (w7 k0) w0
 have s1:=cw_step (m:=k1) s0 (by omega) w1
 have s2:=cw_step (m:=k2) s1 (by omega) w2
 have s3:=cw_step (m:=k3) s2 (by omega) w3
 exact wW s3 (cw_mono (by omega))
def DL (c:GCalendar) (a b:Int):Prop:=∃k:Nat,b=a+k∧1≤k∧k≤500∧cw c a k=4
theorem tick_eq {t:Int} (h0:0≤t) (h1:t≤1099511627776):F_27 t=some true:=by
 simp [F_27,camong_eq,h0,h1]
theorem add_ok {c:GCalendar} (h:GC c) {t:Int} (h0:0≤t) (h1:t≤20000):Ok (F_w c t 4) fun y=>y.2=0∧DL c t y.1:=by
 simp only [F_w,ccheck_ok h,xU,tick_eq h0 (by omega:t≤1099511627776),camong_eq]
 refine Ok.ite (fun e=>by simp at e) fun _=>Ok.ite (fun e=>by simp at e) fun _=>Ok.ite (fun e=>by simp at e) fun _=>?_
 have h4:=four_more h h0 h1
 refine Ok.bind (P:=fun r=>∃y:Int×Int,r=.inr y∧y.2=0∧DL c t y.1) (Ok.loop (fun s=>∃k:Nat,s.2=t+k∧k≤500∧s.1=4 - (cw c t k:Int)∧(cw c t k≤4)∧(∀m:Nat,m<k→cw c t m<4)) (fun s=>(t+500 - s.2).toNat) (fun s hs=>?_) _ ⟨0,by simp,by omega,by simp [cw],by simp [cw],fun m hm=>by omega⟩) fun r hr=>?_
 ·obtain ⟨k,e1,e2,e3,e4,e5⟩:=hs
  simp only [F_3p]
  refine Ok.chk (in64_sm (by omega) (by omega)) (Ok.ite (fun c1=>?_) fun c1=>?_)
  ·by_cases z:cw c t k=4
   ·rw [show decide (s.1=0)=true from wK (by omega)]
    simp only [vD,jn,xU,Fl.elim]
    refine Ok.ret ⟨_,rfl,rfl,k,e1,?_,e2,z⟩
    have:=cw_le (c:=c) (a:=t) k
    omega
   ·rw [show decide (s.1=0)=false from x7 (by omega)]
    have hk:k<500:=by
     apply Nat.lt_of_not_le
     intro hk
     have:=cw_mono (c:=c) (a:=t) hk
     omega
    rw [work_eq h (t:=s.2) (by omega) (by omega)]
    simp only [vB,xU]
    have fin:∀x:Int,x=4 - (cw c t (k+1):Int)→Ok (chk (in64 (s.2+1)) (some (Fl.nx (x,s.2+1)):Option (Fl (Int×Int) (Sum Unit (Int×Int))))) (Fl.elim (fun s'=>(∃k:Nat,s'.2=t+k∧k≤500∧s'.1=4 - (cw c t k:Int)∧(cw c t k≤4)∧(∀m:Nat,m<k→cw c t m<4))∧(t+500 - s'.2).toNat<(t+500 - s.2).toNat) fun r=>∃y:Int×Int,r=.inr y∧y.2=0∧DL c t y.1):=fun x hx=>by
     refine Ok.chk (in64_sm (by omega) (by omega)) (Ok.ret ⟨⟨k+1,by show s.2+1=t+((k+1:Nat):Int);omega,by omega,hx,?_,fun m hm=>?_⟩,by show (t+500 - (s.2+1)).toNat<(t+500 - s.2).toNat;omega⟩)
     ·simp only [cw];cases wkB c (t+k)<;>simp<;>omega
     ·by_cases em:m=k
      ·subst em;omega
      ·exact e5 m (by omega)
    cases hw:wkB c s.2 with
    | true =>
     simp only [vD]
     rw [chk_true (in64_sm (by omega) (by omega))]
     simp only [jn,xU,Fl.elim]
     refine fin _ ?_
     simp only [cw,←e1,hw,vD];omega
    | false =>
     simp only [vB,jn,xU,Fl.elim]
     refine fin _ ?_
     simp only [cw,←e1,hw,vB];omega
  ·have c1:=of_decide_eq_false c1
   omega
 ·obtain ⟨y,rfl,hy⟩:=hr
  exact Ok.ret hy
theorem between_cw {c:GCalendar} (h:GC c) {a b:Int} (h0:0≤a) (h1:b≤40000) {k:Nat} (e:b=a+k):F_p c a b=some ((cw c a k:Int),0):=by
 apply Ok.eq
 simp only [F_p,ccheck_ok h,xU,tick_eq h0 (by omega:a≤1099511627776),tick_eq (t:=b) (by omega) (by omega)]
 have e1:decide (b<a)=false:=x7 (by omega)
 have e2:decide (100000<b - a)=false:=x7 (by omega)
 simp only [decide_true,wQ,vB,grp,e1,e2,wR,chk_true (in64_sm (n:=b - a) (by omega) (by omega)),jn,xU,Fl.elim]
 refine Ok.bind (P:=fun y=>y=(cw c a k:Int)) (Ok.loop (fun s=>∃m:Nat,m≤k∧s.2=a+m∧s.1=(cw c a m:Int)) (fun s=>(b - s.2).toNat) (fun s hs=>?_) _ ⟨0,by omega,by simp,by simp [cw]⟩) fun y hy=>by subst hy;exact Ok.ret rfl
 obtain ⟨m,m1,m2,m3⟩:=hs
 simp only [F_32]
 refine Ok.ite (fun c1=>?_) fun c1=>?_
 ·have c1:=of_decide_eq_true c1
  rw [work_eq h (t:=s.2) (by omega) (by omega)]
  have:=cw_le (c:=c) (a:=a) m
  have fin:∀x:Int,x=(cw c a (m+1):Int)→Ok (chk (in64 (s.2+1)) (some (Fl.nx (x,s.2+1)):Option (Fl (Int×Int) Int))) (Fl.elim (fun s'=>(∃m:Nat,m≤k∧s'.2=a+m∧s'.1=(cw c a m:Int))∧(b - s'.2).toNat<(b - s.2).toNat) fun y=>y=(cw c a k:Int)):=fun x hx =>
   Ok.chk (in64_sm (by omega) (by omega)) (Ok.ret ⟨⟨m+1,by omega,by show s.2+1=a+((m+1:Nat):Int);omega,hx⟩,by show (b - (s.2+1)).toNat<(b - s.2).toNat;omega⟩)
  simp only [xU]
  cases hw:wkB c s.2 with
  | true =>
   simp only [vD]
   rw [chk_true (in64_sm (by omega) (by omega))]
   simp only [jn,xU]
   exact fin _ (by simp only [cw,←m2,hw,vD];omega)
  | false =>
   simp only [vB,jn,xU]
   exact fin _ (by simp only [cw,←m2,hw,vB];omega)
 ·have c1:=of_decide_eq_false c1
  obtain rfl:m=k:=by omega
  exact Ok.ret m3
end Go.Ab
namespace Go.Ab
open Go.Proofs
def sok (n:Int) (x:GSteward):Prop:=(0≤x.Time∧x.Time≤39)∧(0≤x.Subject∧x.Subject<n)∧(-1≤x.Steward∧x.Steward<n)∧x.Subject≠x.Steward
structure GW (d:GDirectory) (s:List GSteward):Prop where
 len:s.length≤30
 ev:∀x∈s,sok d.Kinds.length x
 srt:s.Pairwise (fun a b=>a.Time≤b.Time)
theorem stewards_ok {t:GTape} {d:GDirectory} (h:TOK t) (h1:1≤d.Kinds.length) (h7:d.Kinds.length≤7):Ok (F_19 t d) fun y=>GW d y.1∧TOK y.2:=by
 unfold F_19
 refine Ok.bind (next_ok h (by omega)) fun y hy=>Ok.bind (clock_ok hy.2.2 hy.1 (by omega)) fun z hz=>?_
 obtain ⟨z1,z2,z3,z4⟩:=hz
 refine Ok.bind (Ok.foldI (all:=z.1) (Q:=fun x:List GSteward×GTape=>x.1.length≤30∧(∀e∈x.1,sok d.Kinds.length e∧e.Time∈z.1)∧x.1.Pairwise (fun a b=>a.Time≤b.Time)∧TOK x.2)
  (fun pre x=>x.1.length≤pre.length∧(∀e∈x.1,sok d.Kinds.length e∧e.Time∈pre)∧x.1.Pairwise (fun a b=>a.Time≤b.Time)∧TOK x.2) z.1 [] 0 _ rfl rfl ⟨by simp,by simp,List.Pairwise.nil,z4⟩ (fun pre x q s hw hs=>?_) fun s hs=>⟨by omega,hs.2⟩) fun s hs=>Ok.ret ⟨⟨hs.1,fun e he=>(hs.2.1 e he).1,hs.2.2.1⟩,hs.2.2.2⟩
 unfold F_3h
 obtain ⟨s1,s2,s3,s4⟩:=hs
 have hc:=z3 x (by rw [hw];simp)
 have hpre:∀e∈pre,e≤x:=fun e he=>by rw [hw,List.pairwise_append] at z2;exact z2.2.2 e he x (by simp)
 have hp:pre.length≤30:=by have:=congrArg List.length hw;simp at this;omega
 refine Ok.bind (next_ok s4 (by omega)) fun a ha=>Ok.chk (in64_sm (by omega) (by omega)) (Ok.bind (between_ok ha.2.2 (by omega) (by omega) (by omega)) fun b hb=>?_)
 refine Ok.ite (fun c=>Ok.chk (room_sm (by simp;omega)) (Ok.ret ⟨by simp;omega,fun e he=>?_,?_,hb.2.2⟩)) fun c=>Ok.ret ⟨by simp;omega,fun e he=>⟨(s2 e he).1,by simp [(s2 e he).2]⟩,s3,hb.2.2⟩
 ·have c:¬a.1=b.1:=by simpa using c
  simp only [wD,xD] at he ⊢
  rcases he with he|rfl
  ·exact ⟨(s2 e he).1,.inl (s2 e he).2⟩
  ·exact ⟨⟨⟨hc.1,by show x≤39;omega⟩,⟨ha.1,ha.2.1⟩,⟨hb.1,by show b.1<d.Kinds.length;omega⟩,c⟩,.inr rfl⟩
 ·rw [List.pairwise_append]
  refine ⟨s3,by simp,fun e he w hw2=>?_⟩
  simp only [xD] at hw2
  subst hw2
  exact hpre _ (s2 e he).2
theorem oexists_eq (d:GDirectory) (p:Int):F_25 d p=some (decide (0≤p∧p<d.Kinds.length)):=by simp [F_25,grp]
theorem oloop_ok {d:GDirectory}:∀(l:List GSteward) (k last:Int),(∀x∈l,sok d.Kinds.length x∧last≤x.Time)→l.Pairwise (fun a b=>a.Time≤b.Time)→∃s,forL (F_2y d) l k last=some (.nx s)
 | [],k,last,_,_=>⟨last,rfl⟩
 | x::r,k,last,h,hs=>by
  obtain ⟨⟨a1,a2,a3,a4⟩,a5⟩:=h x (by simp)
  have e1:decide (x.Time<last)=false:=x7 (by omega)
  have e2:decide (1099511627776<x.Time)=false:=x7 (by omega)
  have e3:decide (x.Steward=x.Subject)=false:=x7 fun e=>a4 e.symm
  rw [List.pairwise_cons] at hs
  have ih:=oloop_ok (d:=d) r (k+1) x.Time (fun y hy=>⟨(h y (by simp [hy])).1,hs.1 y hy⟩) hs.2
  simp only [forL,F_2y,grp,e1,e2,wR,vB,oexists_eq,xU,wK (show 0≤x.Subject∧x.Subject<(d.Kinds.length:Int) from a2),wQ]
  by_cases e4:x.Steward=-1
  ·rw [wK e4]
   simpa [jn,Fl.elim] using ih
  ·rw [x7 e4,wK (show 0≤x.Steward∧x.Steward<(d.Kinds.length:Int) from ⟨by omega,a3.2⟩)]
   simpa [jn,Fl.elim,e3] using ih
theorem ocheck_ok {d:GDirectory} {s:List GSteward} (g:GoodD d) (h:GW d s):F_n d s=some 0:=by
 obtain ⟨y,e⟩:=oloop_ok (d:=d) s 0 0 (fun x hx=>⟨h.ev x hx,(h.ev x hx).1.1⟩) h.srt
 have:=h.len
 simp only [F_n,dcheck_eq,if_pos g,xU,decide_true,wQ,vB,show decide (120<(s.length:Int))=false from x7 (by omega),e,Fl.elim]
theorem oknown_ok {d:GDirectory} {s:List GSteward} (g:GoodD d) (h:GW d s) {p:Int} (hp:0≤p∧p<d.Kinds.length):F_3q d s p=some true:=by
 simp [F_3q,ocheck_ok g h,jn,oexists_eq,hp]
def ofP (p:Int):List GSteward→Int→Int
 | [],o=>o
 | x::r,o=>ofP p r (if x.Subject=p then x.Steward else o)
theorem of_loop {p t:Int} (ht:39≤t):∀(l:List GSteward) (k o:Int),(∀x∈l,x.Time≤39)→foldL (F_31 p t) l k o=some (ofP p l o)
 | [],k,o,_=>rfl
 | x::r,k,o,h=>by
  have:=h x (by simp)
  have e:decide (x.Time≤t)=true:=wK (by omega)
  simp only [foldL,F_31,grp,e,Bool.and_true]
  by_cases c:x.Subject=p
  ·simp only [wK c,vD,xU,ofP,if_pos c]
   exact of_loop ht r (k+1) _ fun y hy=>h y (by simp [hy])
  ·simp only [x7 c,vB,xU,ofP,if_neg c]
   exact of_loop ht r (k+1) _ fun y hy=>h y (by simp [hy])
theorem of_eq {p t:Int} (ht:39≤t) {d:GDirectory} {l:List GSteward} (h:GW d l):F_1n l p t=some (ofP p l (-1)):=by
 simp only [F_1n,of_loop ht l 0 (-1) fun x hx=>(h.ev x hx).1.2,xU]
theorem ofP_rng {p n:Int}:∀(l:List GSteward) (o:Int),(∀x∈l,sok n x)→-1≤o∧o<n→-1≤ofP p l o∧ofP p l o<n
 | [],o,_,ho=>ho
 | x::r,o,h,ho=>by
  simp only [ofP]
  refine ofP_rng r _ (fun y hy=>h y (by simp [hy])) ?_
  split
  ·exact (h x (by simp)).2.2.1
  ·exact ho
theorem nodup_len:∀(n:Nat) (l:List Int),l.Nodup→(∀x∈l,0≤x∧x<n)→l.length≤n
 | 0,l,_,h=>by
  cases l with
  | nil=>simp
  | cons x r=>have:=h x (by simp);omega
 | n+1,l,hn,h=>by
  have ih:=nodup_len n (l.erase (n:Int)) (hn.erase _) fun x hx=>by
   have e:=(hn.mem_erase_iff).1 hx
   have:=h x e.2
   have:=e.1
   omega
  have:=List.length_erase (a:=(n:Int)) (l:=l)
  split at this<;>omega
theorem way_loop {n:Nat} {l:List GSteward} {t:Int} (ht:39≤t) {d:GDirectory} (hd:d.Kinds.length=n) (hn:n≤100) (h:GW d l) (p0:Int) (s:Int×List Int) (h1:-1≤s.1∧s.1<n) (h2:s.2.Nodup) (h3:∀x∈s.2,0≤x∧x<n) (h4:s.2=[]∧s.1=p0∧0≤p0∨s.2.head?=some p0):Ok (loop (F_o l t) s) fun w=>w.head?=some p0∧w.length≤n∧w.Nodup:=by
 refine Ok.loop (fun s:Int×List Int=>(-1≤s.1∧s.1<n)∧s.2.Nodup∧(∀x∈s.2,0≤x∧x<n)∧(s.2=[]∧s.1=p0∧0≤p0∨s.2.head?=some p0)) (fun s=>n+1 - s.2.length) (fun s hs=>?_) s ⟨h1,h2,h3,h4⟩
 obtain ⟨g1,g2,g3,g4⟩:=hs
 have gl:=nodup_len n s.2 g2 g3
 unfold F_o
 refine Ok.ite (fun c=>?_) fun c=>?_
 ·have c:¬s.1=-1:=by simpa using c
  rw [dcont_eq]
  simp only [xU]
  refine Ok.ite (fun e=>?_) fun e=>?_
  ·have e:¬s.1∈s.2:=by simpa using e
   have nd:(s.2++[s.1]).Nodup:=by
    rw [List.nodup_append]
    exact ⟨g2,by simp,fun a ha b hb=>by simp only [xD] at hb;intro e';subst hb;subst e';exact e ha⟩
   have rg:∀x∈s.2++[s.1],0≤x∧x<n:=fun x hx=>by
    rcases wD.1 hx with hx|hx
    ·exact g3 x hx
    ·simp only [xD] at hx;omega
   have gl2:=nodup_len n _ nd rg
   simp only [xF,xX,wE] at gl2
   refine Ok.chk (room_sm (by simp;omega)) ?_
   rw [of_eq ht h]
   refine Ok.ret ⟨⟨?_,nd,rg,.inr ?_⟩,by show n+1 - (s.2++[s.1]).length<n+1 - s.2.length;simp;omega⟩
   ·have:=ofP_rng (p:=s.1) (n:=n) l (-1) (fun x hx=>by have:=h.ev x hx;rw [hd] at this;exact this) (by omega)
    exact this
   ·rcases g4 with ⟨a,b,_⟩|a
    ·show (s.2++[s.1]).head?=some p0
     rw [a,b];rfl
    ·show (s.2++[s.1]).head?=some p0
     cases hh:s.2 with
     | nil=>rw [hh] at a;cases a
     | cons x r=>rw [hh] at a;exact a
  ·have e:s.1∈s.2:=by simpa using e
   rcases g4 with ⟨a,_,_⟩|a
   ·rw [a] at e;cases e
   ·exact Ok.ret ⟨a,gl,g2⟩
 ·have c:s.1=-1:=by simpa using c
  rcases g4 with ⟨_,b,b'⟩|a
  ·omega
  ·exact Ok.ret ⟨a,gl,g2⟩
theorem way_body {l:List GSteward} {t t':Int} (ht:39≤t) (ht':39≤t') {d:GDirectory} (h:GW d l):F_o l t=F_o l t':=by
 funext s
 simp only [F_o,of_eq ht h,of_eq ht' h]
theorem way_ok {d:GDirectory} {l:List GSteward} (g:GoodD d) (h:GW d l) {p:Int} (hp:0≤p∧p<d.Kinds.length):∃w:List Int,w.head?=some p∧w.length≤24∧∀t,39≤t→F_1 d l p t=some w:=by
 obtain ⟨w,e,w1,w2,w3⟩:=way_loop (n:=d.Kinds.length) (l:=l) (t:=39) (by omega) rfl (by have:=g.kl;omega) h p (p,[]) ⟨by show -1≤p;omega,hp.2⟩ (by simp) (by simp) (.inl ⟨rfl,rfl,hp.1⟩)
 refine ⟨w,w1,by have:=g.kl;omega,fun t ht=>?_⟩
 simp only [F_1,oknown_ok g h hp,xU,wQ,vB,way_body ht (by omega:(39:Int)≤39) h,e]
end Go.Ab
namespace Go.Ab
open Go.Proofs
theorem ncheck_ok {d:GDirectory} (g:GoodD d) {t h:Int} (ht:0≤t∧t≤1000) (hh:0≤h∧h<d.Kinds.length):F_1k d [⟨t,1,0,3,h⟩]=some 0:=by
 have e1:decide (t<0)=false:=x7 (by omega)
 have e2:decide (1099511627776<t)=false:=x7 (by omega)
 have e3:decide (0≤h)=true:=wK hh.1
 have e4:decide (h<(d.Kinds.length:Int))=true:=wK hh.2
 have e5:(dlF 3)=some 4:=rfl
 simp only [F_1k,dcheck_eq,if_pos g,xU,decide_true,wQ,vB,forL,F_3n,F_26,grp,jn,aget,e1,e2,e5,wR,Option.getD_none,wM,vD]
 simp [e3,e4,Fl.elim]
def wTo (w:List Int) (k:Int):Int:=w.getD (min k ((w.length:Int) - 1)).toNat default
theorem nstep {c:GCalendar} {d:GDirectory} {s:List GSteward} (gc:GC c) {w:List Int} {t0 h:Int} (hw:∀t,39≤t→F_1 d s h t=some w) (hl:1≤w.length∧w.length≤24) (k:Nat) (hk:1≤k∧k≤3) (out:List GNotice) (ho:out.length=k) (T:Int) (hT:(out.getD (k - 1) default).Time=T) (hr:40≤T∧T≤20000) :
  Ok (F_x c d s [⟨t0,1,0,3,h⟩] 0 30000 ((k:Int),out)) fun o=>∃t',DL c T t'∧o=.nx (((k:Int)+1),out++[⟨t',0,wTo w k,k⟩]):=by
 have e1:((k:Int) - 1).toNat=k - 1:=by omega
 simp only [F_x]
 refine Ok.ite (fun _=>?_) fun e=>by have:=of_decide_eq_false e;omega
 refine Ok.chk (in64_sm (by omega) (by omega)) (Ok.chk (inb_iff.2 (by omega)) ?_)
 rw [e1,hT,show dlF (([⟨t0,1,0,3,h⟩]:List GCase).getD (0:Int).toNat default).Level=some 4 from rfl]
 simp only [xU]
 refine Ok.bind (add_ok gc (by omega) (by omega)) fun y hy=>?_
 obtain ⟨y1,y2⟩:=hy
 have y2':=y2
 obtain ⟨m,m1,m2,m3,m4⟩:=y2'
 refine Ok.ite (fun e=>by simp [y1] at e) fun _=>Ok.ite (fun e=>by have:=of_decide_eq_true e;omega) fun _=>?_
 refine Ok.chk (in64_sm (by omega) (by omega)) (Ok.chk (inc_iff.2 (by simp)) ?_)
 rw [show F_4d (([⟨t0,1,0,3,h⟩]:List GCase).drop ((0:Int)+1).toNat) (([⟨t0,1,0,3,h⟩]:List GCase).getD (0:Int).toNat default).Case y.1=some false from rfl,show (([⟨t0,1,0,3,h⟩]:List GCase).getD (0:Int).toNat default).Owner=h from rfl]
 simp only [xU,vB]
 rw [hw y.1 (by omega)]
 simp only [xU]
 refine Ok.chk (in64_sm (by omega) (by omega)) (Ok.chk (inb_iff.2 (by omega)) (Ok.chk (room_sm (by simp;omega)) (Ok.chk (in64_sm (by omega) (by omega)) (Ok.ret ⟨y.1,y2,rfl⟩))))
theorem nlast {c:GCalendar} {d:GDirectory} {s:List GSteward} {l:List GCase} {o u:Int} (k:Int) (hk:3<k) (out:List GNotice):F_x c d s l o u (k,out)=some (.ex (.inl out)):=by
 simp only [F_x]
 rw [x7 (by omega)];rfl
theorem bits4:(F_3r (IntKind.wrap .u64 ((4:Nat):Int))).isSome=true:=by kernel_rfl
theorem nall_ok {c:GCalendar} {d:GDirectory} {s:List GSteward} (gc:GC c) {w:List Int} {t0 h:Int} (hw:∀t,39≤t→F_1 d s h t=some w) (hl:1≤w.length∧w.length≤24) (ht:40≤t0∧t0≤50) :
  Ok (F_e c d s [⟨t0,1,0,3,h⟩] 0 30000) fun y=>y.2=0∧∃t1 t2 t3,DL c t0 t1∧DL c t1 t2∧DL c t2 t3∧y.1=[⟨t0,0,h,0⟩,⟨t1,0,wTo w 1,1⟩,⟨t2,0,wTo w 2,2⟩,⟨t3,0,wTo w 3,3⟩]:=by
 simp only [F_e]
 refine Ok.chk (inb_iff.2 (by simp)) ?_
 rw [show ([⟨t0,1,0,3,h⟩]:List GCase).getD (0:Int).toNat default=⟨t0,1,0,3,h⟩ from rfl]
 refine Ok.ite (fun e=>by have:=of_decide_eq_true e;simp only at this;omega) fun _=>?_
 refine Ok.bind (P:=fun y:Sum (List GNotice) (List GNotice×Int)=>∃t1 t2 t3,DL c t0 t1∧DL c t1 t2∧DL c t2 t3∧y=.inl [⟨t0,0,h,0⟩,⟨t1,0,wTo w 1,1⟩,⟨t2,0,wTo w 2,2⟩,⟨t3,0,wTo w 3,3⟩]) ?_ fun y hy=>?_
 ·rw [loop_eq]
  refine Ok.bind (nstep gc hw hl 1 (by omega) [⟨t0,0,h,0⟩] rfl t0 rfl (by omega)) fun o ho=>?_
  obtain ⟨t1,d1,rfl⟩:=ho
  have d1':=d1
  obtain ⟨m1,n1,_,n2,_⟩:=d1'
  simp only [Fl.elim]
  rw [loop_eq]
  refine Ok.bind (nstep gc hw hl 2 (by omega) ([⟨t0,0,h,0⟩]++[⟨t1,0,wTo w 1,1⟩]) rfl t1 rfl (by omega)) fun o ho=>?_
  obtain ⟨t2,d2,rfl⟩:=ho
  have d2':=d2
  obtain ⟨m2,n3,_,n4,_⟩:=d2'
  simp only [Fl.elim]
  rw [loop_eq]
  refine Ok.bind (nstep gc hw hl 3 (by omega) ([⟨t0,0,h,0⟩]++[⟨t1,0,wTo w 1,1⟩]++[⟨t2,0,wTo w 2,2⟩]) rfl t2 rfl (by omega)) fun o ho=>?_
  obtain ⟨t3,d3,rfl⟩:=ho
  simp only [Fl.elim]
  rw [loop_eq,nlast _ (by omega)]
  exact Ok.ret ⟨t1,t2,t3,d1,d2,d3,rfl⟩
 ·obtain ⟨t1,t2,t3,d1,d2,d3,rfl⟩:=hy
  exact Ok.ret ⟨rfl,t1,t2,t3,d1,d2,d3,rfl⟩
theorem nan_eq (x:Int):F_v x=some false:=by simp [F_v]
theorem comp_some (x y:Int):∃z,F_y x y=some z:=by
 simp only [F_y,nan_eq,xU,vB]
 by_cases a:x<y
 ·exact ⟨_,by rw [wK a];rfl⟩
 ·by_cases b:y<x
  ·exact ⟨_,by rw [x7 a,wK b];rfl⟩
  ·exact ⟨_,by rw [x7 a,x7 b];rfl⟩
theorem cmp_gt {a b:GNotice} (h:b.Time<a.Time):F_z a b=some 1:=by
 obtain ⟨y,ey⟩:=comp_some a.Case b.Case
 obtain ⟨z,ez⟩:=comp_some a.Step b.Step
 have e:F_y a.Time b.Time=some 1:=by
  simp only [F_y,nan_eq,xU,vB,wK h,x7 (by omega:¬a.Time<b.Time),vD]
 simp only [F_z,e,ey,ez,xU]
 rfl
theorem sort_ok {l:List GNotice} (hl:l.length≤12) (h:l.Pairwise (fun a b=>a.Time<b.Time)) (hb:(F_3r (IntKind.wrap .u64 (l.length:Int))).isSome=true):F_g l=some l:=by
 obtain ⟨q,hq⟩:=Option.isSome_iff_exists.1 hb
 have inner:∀j:Int,0<j→j<l.length→loop (F_10 0) (j,l)=some l:=fun j j0 jl=>by
  rw [loop_eq]
  obtain ⟨n,rfl⟩:∃n:Nat,j=(n:Int)+1:=⟨(j - 1).toNat,by omega⟩
  have e1:((n:Int)+1).toNat=n+1:=by omega
  have e2:((n:Int)+1 - 1).toNat=n:=by omega
  have p:=List.pairwise_iff_getElem.1 h n (n+1) (by omega) (by omega) (by omega)
  have g1:(l.getD n default).Time<(l.getD (n+1) default).Time:=by
   rw [zE,zE,zJ (by omega),zJ (by omega)]
   exact p
  simp only [F_10,wK j0,vD,e1,e2,cmp_gt g1,chk_true (inb_iff.2 ⟨by omega,by omega⟩:inb ((n:Int)+1) l.length=true),chk_true (in64_sm (n:=(n:Int)+1 - 1) (by omega) (by omega)),chk_true (inb_iff.2 ⟨by omega,by omega⟩:inb ((n:Int)+1 - 1) l.length=true),xU]
  rfl
 have outer:F_f l 0 (l.length:Int)=some l:=by
  apply Ok.eq
  unfold F_f
  refine Ok.chk (in64_sm (by omega) (by omega)) (Ok.bind (P:=fun y=>y=l) (Ok.loop (fun s=>s.2=l∧1≤s.1∧s.1≤13) (fun s=>(13 - s.1).toNat) (fun s hs=>?_) _ ⟨rfl,by show (1:Int)≤0+1;omega,by show (0:Int)+1≤13;omega⟩) fun y hy=>Ok.ret hy)
  obtain ⟨i,l'⟩:=s
  obtain ⟨s1,s2,s3⟩:=hs
  simp only at s1 s2 s3
  subst s1
  simp only [F_28]
  refine Ok.ite (fun c=>?_) fun c=>Ok.ret rfl
  have c:=of_decide_eq_true c
  rw [inner i (by omega) c]
  exact Ok.chk (in64_sm (by omega) (by omega)) (Ok.ret ⟨⟨rfl,by show 1≤i+1;omega,by show i+1≤13;omega⟩,by show (13 - (i+1)).toNat<(13 - i).toNat;omega⟩)
 simp only [F_g,hq,xU,F_6]
 rw [loop_eq]
 simp only [F_1o,chk_true (in64_sm (n:=(l.length:Int) - 0) (by omega) (by omega)),show decide ((l.length:Int) - 0≤12)=true from wK (by omega),vD,outer,xU,Fl.elim]
theorem All_ok {c:GCalendar} {d:GDirectory} {s:List GSteward} (gc:GC c) (g:GoodD d) (gw:GW d s) {w:List Int} {t0 h:Int} (hw:∀t,39≤t→F_1 d s h t=some w) (hl:1≤w.length∧w.length≤24) (ht:40≤t0∧t0≤50) (hh:0≤h∧h<d.Kinds.length) :
  Ok (F_h c d s [⟨t0,1,0,3,h⟩] 30000) fun y=>y.2=0∧∃t1 t2 t3,DL c t0 t1∧DL c t1 t2∧DL c t2 t3∧y.1=[⟨t0,0,h,0⟩,⟨t1,0,wTo w 1,1⟩,⟨t2,0,wTo w 2,2⟩,⟨t3,0,wTo w 3,3⟩]:=by
 simp only [F_h,ccheck_ok gc,ocheck_ok g gw,ncheck_ok g (t:=t0) (h:=h) (by omega) hh,xU,show F_4a [0,0,0]=some 0 from rfl]
 refine Ok.ite (fun e=>by simp at e) fun _=>Ok.grp (Ok.ite (fun e=>by simp at e) fun _=>?_)
 simp only [forL]
 refine Ok.bind (P:=fun o:Fl (List GNotice) (List GNotice×Int)=>∃t1 t2 t3,DL c t0 t1∧DL c t1 t2∧DL c t2 t3∧o=.nx [⟨t0,0,h,0⟩,⟨t1,0,wTo w 1,1⟩,⟨t2,0,wTo w 2,2⟩,⟨t3,0,wTo w 3,3⟩]) (Ok.bind (P:=fun o:Fl (List GNotice) (List GNotice×Int)=>∃t1 t2 t3,DL c t0 t1∧DL c t1 t2∧DL c t2 t3∧o=.nx [⟨t0,0,h,0⟩,⟨t1,0,wTo w 1,1⟩,⟨t2,0,wTo w 2,2⟩,⟨t3,0,wTo w 3,3⟩]) ?_ fun o ho=>?_) fun o ho=>?_
 ·simp only [F_29]
  refine Ok.ite (fun e=>by simp at e) fun _=>Ok.bind (nall_ok gc hw hl ht) fun y hy=>?_
  obtain ⟨y1,t1,t2,t3,d1,d2,d3,y2⟩:=hy
  refine Ok.ite (fun e=>by simp [y1] at e) fun _=>Ok.chk (room_sm (by rw [y2];simp)) (Ok.ret ⟨t1,t2,t3,d1,d2,d3,by rw [y2];rfl⟩)
 ·obtain ⟨t1,t2,t3,d1,d2,d3,rfl⟩:=ho
  exact Ok.ret ⟨t1,t2,t3,d1,d2,d3,rfl⟩
 ·obtain ⟨t1,t2,t3,d1,d2,d3,rfl⟩:=ho
  have d1':=d1;have d2':=d2;have d3':=d3
  obtain ⟨m1,n1,k1,_,_⟩:=d1'
  obtain ⟨m2,n2,k2,_,_⟩:=d2'
  obtain ⟨m3,n3,k3,_,_⟩:=d3'
  simp only [Fl.elim]
  have e:=sort_ok (l:=[⟨t0,0,h,0⟩,⟨t1,0,wTo w 1,1⟩,⟨t2,0,wTo w 2,2⟩,⟨t3,0,wTo w 3,3⟩]) (by simp) (by simp;omega) bits4
  rw [e]
  exact Ok.ret ⟨rfl,t1,t2,t3,d1,d2,d3,rfl⟩
theorem away_ok {c:GCalendar} (gc:GC c) {a b:Int} (h0:0≤a) (h1:b≤40000) (h:DL c a b):F_3s c a b=some true:=by
 obtain ⟨k,e,_,_,e4⟩:=h
 simp only [F_3s,between_cw gc h0 h1 e,e4,xU]
 rfl
theorem look_ok {c:GCalendar} (gc:GC c) {tp:GTape} {w:List Int} {r:List GNotice×Int} (hl:1≤w.length∧w.length≤24) (k:Nat) (hk:k≤3) (hr:r.1.length=4) (a:GNotice) (ha:a.To=wTo w k) (hd:0<k→0≤(r.1.getD (k - 1) default).Time∧a.Time≤40000∧DL c (r.1.getD (k - 1) default).Time a.Time):F_l (c,tp) r w k a ()=some (.nx ()):=by
 apply Ok.eq
 simp only [F_l]
 refine Ok.ite (fun e=>by have:=of_decide_eq_true e;omega) fun _=>Ok.chk (in64_sm (by omega) (by omega)) (Ok.chk (inb_iff.2 (by omega)) (Ok.ite (fun e=>?_) fun _=>Ok.ite (fun e=>?_) fun _=>Ok.ret rfl))
 ·exfalso
  rw [ha,wTo] at e
  simp at e
 ·have e:=of_decide_eq_true e
  have e1:((k:Int) - 1).toNat=k - 1:=by omega
  obtain ⟨q1,q2,q3⟩:=hd (by omega)
  refine Ok.chk (in64_sm (by omega) (by omega)) (Ok.chk (inb_iff.2 (by omega)) ?_)
  rw [e1,away_ok gc q1 q2 q3]
  exact Ok.ret rfl
end Go.Ab
namespace Go.Ab
open Go.Proofs
theorem notices_ok (l:List Int):Ok (F_1t l) (·=true):=by
 simp only [F_1t]
 refine Ok.ite (fun _=>by rw [awaken];exact Ok.ret rfl) fun c=>?_
 have c:=of_decide_eq_false c
 refine Ok.bind (calendar_ok (t:=⟨l,0⟩) ⟨by show (0:Int)≤0;omega,by show l.length≤1000;omega⟩) fun y6 h6=>Ok.bind (dir_ok h6.2) fun y8 h8=>?_
 obtain ⟨g,k1,k7,_,_,t8⟩:=h8
 refine Ok.bind (stewards_ok t8 k1 k7) fun y10 h10=>Ok.bind (next_ok h10.2 (by omega)) fun y13 h13=>Ok.bind (next_ok h13.2.2 (by omega)) fun y14 h14=>Ok.chk (in64_sm (by omega) (by omega)) ?_
 have hp:0≤y13.1∧y13.1<y8.1.Kinds.length:=⟨h13.1,h13.2.1⟩
 obtain ⟨w,w1,w2,hw⟩:=way_ok g h10.1 hp
 have hl:1≤w.length∧w.length≤24:=⟨by cases w with|nil=>cases w1|cons x r=>simp,w2⟩
 have w0:wTo w 0=y13.1:=by
  cases w with
  | nil=>cases w1
  | cons x r =>
   have e:=x8 w1
   rw [wTo,show min (0:Int) (((x::r).length:Int) - 1)=0 by simp only [xX];omega];exact e
 refine Ok.bind (All_ok h6.1 g h10.1 hw hl (t0:=40+y14.1) (by omega) hp) fun r hr=>?_
 obtain ⟨r1,t1,t2,t3,d1,d2,d3,r2⟩:=hr
 have q1:=d1;have q2:=d2;have q3:=d3
 obtain ⟨m1,n1,_,p1,_⟩:=q1
 obtain ⟨m2,n2,_,p2,_⟩:=q2
 obtain ⟨m3,n3,_,p3,_⟩:=q3
 have rl:r.1.length=4:=by rw [r2];rfl
 refine Ok.grp (Ok.ite (fun e=>by simp [r1,rl] at e) fun _=>?_)
 rw [hw (40+y14.1) (by omega)]
 simp only [xU]
 have lk:=fun k hk a ha hd=>look_ok (c:=y6.1) h6.1 (tp:=y6.2) (w:=w) (r:=r) hl k hk rl a ha hd
 have e0:=lk 0 (by omega) ⟨40+y14.1,0,y13.1,0⟩ w0.symm (by omega)
 have e1:=lk 1 (by omega) ⟨t1,0,wTo w 1,1⟩ rfl fun _=>by rw [r2];exact ⟨by show 0≤40+y14.1;omega,by show t1≤40000;omega,d1⟩
 have e2:=lk 2 (by omega) ⟨t2,0,wTo w 2,2⟩ rfl fun _=>by rw [r2];exact ⟨by show 0≤t1;omega,by show t2≤40000;omega,d2⟩
 have e3:=lk 3 (by omega) ⟨t3,0,wTo w 3,3⟩ rfl fun _=>by rw [r2];exact ⟨by show 0≤t2;omega,by show t3≤40000;omega,d3⟩
 have all:forL (F_l y6 r w) r.1 0 ()=some (.nx ()):=by
  have f0:F_l y6 r w 0 ⟨40+y14.1,0,y13.1,0⟩ ()=some (.nx ()):=e0
  have f1:F_l y6 r w (0+1) ⟨t1,0,wTo w 1,1⟩ ()=some (.nx ()):=e1
  have f2:F_l y6 r w (0+1+1) ⟨t2,0,wTo w 2,2⟩ ()=some (.nx ()):=e2
  have f3:F_l y6 r w (0+1+1+1) ⟨t3,0,wTo w 3,3⟩ ()=some (.nx ()):=e3
  rw [r2]
  simp only [forL,f0,f1,f2,f3,xU,Fl.elim]
 rw [all]
 simp only [xU,Fl.elim,awaken]
 exact Ok.ret rfl
theorem calltn {l:List Int}:ACall Tryz.prog 3 [.sl (l.map (V.int .i64))] [] (fun r H=>r=.bool true∧H=[]):=Wq_1t.c.w (Ok.eq (notices_ok l))
end Go.Ab
