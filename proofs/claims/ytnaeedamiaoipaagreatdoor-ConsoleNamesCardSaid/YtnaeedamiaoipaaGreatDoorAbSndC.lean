/- The abstract layer, part 7: addresses, loads, slices of what is there, structs made of parts. -/
import Derived.Test.YtnaeedamiaoipaaGreatDoorAbSndB
set_option linter.all false
namespace Go.Ab
open Go.RowKit
section
variable {P:Program} {o:Oper} {c:Ctx} {g:Gh} {σ:St} {a:Act} {w:World} {ob:Nat→Option Obj'} {K L:Eff→Prop} {K':Act→World→Prop} {Q':Exit→Act→World→Prop}
theorem opds_vr (hR:Rel P c g σ a w):∀{xs:List Opd} {ys:List Operand},opdsOK xs ys=true→xs.length=ys.length∧∀(i:Nat) (x:V),(xs.map (·.ev σ.env))[i]?=some x→VR g w ((ys.map a.eval).getD i undef) x
 | [],[],_=>⟨rfl,fun i x h=>by simp at h⟩
 | [],_::_,h=>by simp [opdsOK] at h
 | _::_,[],h=>by simp [opdsOK] at h
 | x::xs,y::ys,h=>by
  simp only [opdsOK,Bool.and_eq_true] at h
  obtain ⟨h1,h2⟩:=opds_vr hR h.2
  refine ⟨by simp [h1],fun i v hi=>?_⟩
  cases i with
  | zero=>simp at hi;subst hi;simpa using Opd.vr hR h.1
  | succ i=>simp only [List.map_cons,List.getElem?_cons_succ] at hi;simpa using h2 i v hi
theorem s_mkfn {f:Nat} {cap:List Opd} (hok:(MIns.mkfn f cap).ok P o.op=true) (hR:Rel P c g σ a w) {d:Nat} (h:stepV P (.mkfn f cap) d (cap.map (·.ev σ.env)) ob K L) (hF:Fin o c g σ a w K L K'):o.wp P a w K' Q':=by
 have:∃first cap',o.op=.makeFunc (.func f) first cap'∧first=#[]∧opdsOK cap cap'.toList=true:=by
  cases ho:o.op<;>rw [ho] at hok<;>try (simp [MIns.ok] at hok;done)
  rename_i fn first cap'
  cases fn<;>try (simp [MIns.ok] at hok;done)
  simp [MIns.ok] at hok
  obtain ⟨⟨h1,h2⟩,h3⟩:=hok
  subst h1
  exact ⟨first,cap',rfl,h2,h3⟩
 obtain ⟨first,cap',ho,rfl,hc⟩:=this
 obtain ⟨hl,hv⟩:=opds_vr hR hc
 have hk:K (evl (.fn (.func f) (cap.map (·.ev σ.env)))):=by
  unfold stepV at h;exact h
 refine fin_val hR hF (v:=.func (.func f) #[] (cap'.map a.eval)) ?_ (.inl hk) ?_
 ·simp [execOp,ho,Instr.makeFunc]
 ·refine .fn _ _ _ (by simp [hl]) fun i x hi=>?_
  have:=hv i x hi
  have e:(cap'.map a.eval).getD i undef=(cap'.toList.map a.eval).getD i undef:=by
   simp [Array.getD_eq_getD_getElem?,List.getD]
  rw [e];exact this
theorem s_mm {mx:Bool} {x y:Opd} (hok:(MIns.mm mx x y).ok P o.op=true) (hR:Rel P c g σ a w) {d:Nat} (h:stepV P (.mm mx x y) d [x.ev σ.env,y.ev σ.env] ob K L) (hF:Fin o c g σ a w K L K'):o.wp P a w K' Q':=by
 have:∃cl u v,o.op=.call cl∧cl.callee=.builtin (if mx then .max else .min)∧cl.args=#[u,v]∧x.ok u=true∧y.ok v=true:=by
  cases ho:o.op<;>rw [ho] at hok<;>try (simp [MIns.ok] at hok;done)
  rename_i cl
  obtain ⟨callee,args,ts⟩:=cl
  cases callee<;>try (simp [MIns.ok] at hok;done)
  unfold MIns.ok at hok
  simp only at hok
  split at hok
  ·rename_i u v he
   simp at hok
   refine ⟨_,u,v,rfl,by rw [hok.2],?_,hok.1.1,hok.1.2⟩
   apply Array.toList_inj.1
   simpa using he
  ·cases hok
 obtain ⟨cl,u,v,ho,hcl,hargs,hx,hy⟩:=this
 have vx:=Opd.vr hR hx
 have vy:=Opd.vr hR hy
 simp only [stepV,sMm] at h
 split at h
 ·rename_i k p k' q hp hq
  rw [hp] at vx;rw [hq] at vy
  by_cases hk:kEq k k'=true
  case neg=>simp [hk] at h
  simp only [hk,cond_true] at h
  have:=kEq_eq hk;subst this
  obtain ⟨ex,rx⟩:=vx.int_inv
  obtain ⟨ey,ry⟩:=vy.int_inv
  refine fin_val hR hF (v:=.int k (bif mx then max p q else min p q)) ?_ (.inl h) (.rd (.int _ _ ?_))
  ·cases mx
   ·simp [execOp,ho,resolve,hcl,hargs,invoke,builtin,ex,ey,run_min_int2]
    rw [Int.min_def]
    split<;>split<;>first|rfl|omega
   ·simp [execOp,ho,resolve,hcl,hargs,invoke,builtin,ex,ey,run_max_int2]
    rw [Int.max_def]
    split<;>split<;>first|rfl|omega
  ·cases mx<;>simp only [cond_true,cond_false]
   ·rw [Int.min_def];split<;>assumption
   ·rw [Int.max_def];split<;>assumption
 ·exact h.elim
theorem s_fad {off:Nat} {x:Opd} (hok:(MIns.fad off x).ok P o.op=true) (hR:Rel P c g σ a w) {d:Nat} (h:stepV P (.fad off x) d [x.ev σ.env] ob K L) (hF:Fin o c g σ a w K L K'):o.wp P a w K' Q':=by
 have:∃t y f fs fl i,o.op=.fieldAddr t y f∧x.ok y=true∧P.underlying t=some (.struct fs)∧fs[f]?=some fl∧fl.offset=off∧P.info? fl.type=some i∧i.size≠0:=by
  cases ho:o.op<;>rw [ho] at hok<;>try (simp [MIns.ok] at hok;done)
  rename_i t y f
  simp only [MIns.ok,Bool.and_eq_true,fieldIs] at hok
  obtain ⟨h1,h2⟩:=hok
  split at h2<;>try (cases h2;done)
  rename_i fs hu
  split at h2<;>try (cases h2;done)
  rename_i fl hfl
  simp only [Bool.and_eq_true] at h2
  obtain ⟨h2,h3⟩:=h2
  split at h3<;>try (cases h3;done)
  rename_i i hi
  exact ⟨t,y,f,fs,fl,i,rfl,h1,hu,hfl,by simpa using h2,hi,fun e=>by rw [e] at h3;cases h3⟩
 obtain ⟨t,y,f,fs,fl,i,ho,hx,hu,hfl,hoff,hi,hsz⟩:=this
 have vx:=Opd.vr hR hx
 simp only [stepV,sFad] at h
 have hrun:∀ad:Addr,a.eval y=.pointer (some ad)→(execOp a.eval o).run P w=.ok (.value (.pointer (some (ad.add off)))) w:=by
  intro ad e
  simp [execOp,ho,Instr.fieldAt,run_underlying hu,hfl,e,Instr.sureAddr,fieldPlace,Go.sizeOf,typeInfo,hi,hsz,hoff]
 have add_eq:∀b n m:Nat,(⟨b,n,none⟩:Addr).add m=⟨b,n+m,none⟩:=fun b n m=>Addr.add_lit b n m
 cases hc:x.ev σ.env<;>simp only [hc] at h<;>try exact h.elim
 ·rw [hc] at vx
  refine fin_val hR hF (hrun _ vx.ptr_inv) (.inl h) ?_
  rw [add_eq];exact .ptr _ _
 ·rw [hc] at vx
  obtain ⟨b,o',cur,e,fz,hv,hS,hg,hb,hr⟩:=vx.eptr_inv
  refine fin_val hR hF (hrun _ hv) (.inl h) ?_
  rw [add_eq,Nat.add_assoc];exact .eptr b o' _ cur e fz _ hS hg hb hr
 ·rw [hc] at vx
  refine fin_val hR hF (hrun _ vx.optr_inv) (.inl h) ?_
  rw [add_eq,Nat.add_assoc];exact .optr _ _ _ _
theorem part_inv {n:Option Nat} {off:Nat} {cs:List V} {Kp:V→Prop} (h:part n off cs Kp):∃x,Kp x ∧
  ((n=none∧cs[off]?=some x)∨∃m,n=some m∧off+m≤cs.length∧x=.agg ((cs.drop off).take m)):=by
 unfold part at h
 cases n with
 | none =>
  simp only at h
  split at h
  ·rename_i c r hd
   refine ⟨c,h,.inl ⟨rfl,?_⟩⟩
   have:=congrArg (·[0]?) hd
   simpa using this
  ·exact h.elim
 | some m =>
  simp only at h
  by_cases hb:Nat.ble (off+m) cs.length=true
  ·simp only [hb,cond_true] at h
   exact ⟨_,h,.inr ⟨m,rfl,by simpa using hb,rfl⟩⟩
  ·simp [hb] at h
theorem aggN_none {t:TypeId} (h:aggN P t=some none):∀w':World,(isAgg t).run P w'=.ok false w':=by
 intro w'
 unfold aggN at h
 split at h<;>try (simp at h;done)
 rename_i d i hn1 hn2 hu hi
 cases d<;>simp_all [isAgg,run_underlying]
theorem aggN_some {t:TypeId} {m:Nat} (h:aggN P t=some (some m)):(∀w':World,(isAgg t).run P w'=.ok true w')∧∀w':World,(Go.sizeOf t).run P w'=.ok m w':=by
 unfold aggN at h
 split at h<;>simp at h
 ·rename_i fs i hu hi
  exact ⟨fun w'=>by simp [isAgg,run_underlying hu],fun w'=>by simp [Go.sizeOf,typeInfo,hi,h]⟩
 ·rename_i n e i hu hi
  exact ⟨fun w'=>by simp [isAgg,run_underlying hu],fun w'=>by simp [Go.sizeOf,typeInfo,hi,h]⟩
theorem run_loadVar_part {t:TypeId} {n:Option Nat} (ht:aggN P t=some n) {b o' off:Nat} {cur:Array Value} {e:TypeId} {fz:Nat×Nat} (hb:w.heap[b]?=some (.cells cur e fz)) {cs:List V}
  (hsz:o'+cs.length≤cur.size) (hr:∀(j:Nat) (x:V),cs[j]?=some x→VR g w (cur.getD (o'+j) undef) x) {Kp:V→Prop} (h:part n off cs Kp) :
  ∃v x,(loadVar t ⟨b,o'+off,none⟩).run P w=.ok v w∧Kp x∧VR g w v x:=by
 obtain ⟨x,hk,hx⟩:=part_inv h
 rcases hx with ⟨rfl,hx⟩|⟨m,rfl,hm,rfl⟩
 ·have hlt:off<cs.length:=(List.getElem?_eq_some_iff.1 hx).1
  refine ⟨cur.getD (o'+off) undef,x,?_,hk,hr off x hx⟩
  have hc:w.cell? ⟨b,o'+off,none⟩=some (cur.getD (o'+off) undef):=by
   rw [cell_of_row w b _ cur e fz hb]
   have:o'+off<cur.size:=by omega
   simp [Array.getD_eq_getD_getElem?,this]
  simp [loadVar,aggN_none ht w,run_load,hc]
 ·obtain ⟨h1,h2⟩:=aggN_some ht
  have hl:((cur.toList.drop (o'+off)).take m).length=m:=by simp;omega
  refine ⟨.agg ((cur.toList.drop (o'+off)).take m).toArray,_,?_,hk,?_⟩
  ·have hrun:=run_loadCells_list (P:=P) w ⟨b,o'+off,none⟩ ((cur.toList.drop (o'+off)).take m) (fun j v hv=>by
    rw [show (⟨b,o'+off,none⟩:Addr).add j=⟨b,o'+off+j,none⟩ from Addr.add_lit _ _ _,cell_of_row w b _ cur e fz hb]
    rw [List.getElem?_take] at hv
    split at hv
    ·simpa using hv
    ·cases hv)
   rw [hl] at hrun
   simp only [loadVar,Sem.run_bind,h1 w,Result.andThen_ok,if_true,h2 w,hrun,Sem.run_pure]
  ·refine .agg _ _ (by simp;omega) fun i x hi=>?_
   rw [List.getElem?_take] at hi
   split at hi
   ·rename_i him
    have hi':cs[off+i]?=some x:=by simpa using hi
    have:=hr (off+i) x hi'
    have hlt:o'+(off+i)<cur.size:=by
     have:=(List.getElem?_eq_some_iff.1 hi').1;omega
    have e1:((cur.toList.drop (o'+off)).take m).toArray.getD i undef=cur.getD (o'+(off+i)) undef:=by
     simp [Array.getD_eq_getD_getElem?,List.getElem?_take,him,Nat.add_assoc]
    rw [e1];exact this
   ·cases hi
theorem ld_run {n:Option Nat} {t:TypeId} {v:Value} {x:V} {H:Heap} {Kl Ll:V→Prop} (ht:aggN P t=some n) (hH:HRel P g w H) (hob:∀id o,ob id=some o→find id H=some o) (vx:VR g w v x) (h:sLd n x ob Kl Ll) :
  ∃ad u z,v=.pointer (some ad)∧(loadVar t ad).run P w=.ok u w∧(Kl z∨Ll z)∧VR g w u z:=by
 unfold sLd at h
 split at h
 ·rename_i id off
  split at h
  ·rename_i cs _ hobj
   have hO:=hH.obj _ _ (hob _ _ hobj)
   obtain ⟨hn,cur,e,fz,h1,h2,h3,h4⟩:=hO
   obtain ⟨v,x',hrun,hk,hv⟩:=run_loadVar_part (P:=P) ht (o':=0) (off:=off) h1 (cs:=cs) (by omega) (fun j x hj=>by rw [Nat.zero_add];exact h4 j x hj) h
   rw [Nat.zero_add] at hrun
   exact ⟨_,v,x',vx.ptr_inv,hrun,.inl hk,hv⟩
  ·exact h.elim
 ·rename_i z off
  obtain ⟨b,o',cur,e,fz,hv,hS,hg,hb,hr⟩:=vx.eptr_inv
  obtain ⟨v,x',hrun,hk,hv'⟩:=run_loadVar_part (P:=P) ht (off:=off) hg hb (fun j x hj=>.rd (hr j x hj)) h
  exact ⟨_,v,x',hv,hrun,.inl hk,hv'⟩
 ·rename_i id k i off
  split at h
  ·rename_i k' xs t0 hobj
   by_cases hkk:Nat.beq k k'=true
   case neg=>simp [hkk] at h
   simp only [hkk,cond_true] at h
   have:=Nat.eq_of_beq_eq_true hkk;subst this
   obtain ⟨x',hxi,hp⟩:=h
   rcases hH.obj _ _ (hob _ _ hobj) with ⟨_,hnil⟩|⟨hn,ha⟩
   ·rw [hnil] at hxi;simp at hxi
   ·obtain ⟨hkp,⟨cur,e,fz,h1,h2,h3,h4⟩,h5,h6,h7⟩:=ha
    have hlt:i<xs.length:=(List.getElem?_eq_some_iff.1 hxi).1
    have hx':=h7 x' (List.mem_of_getElem? hxi)
    have hle:(g.base id+i+1)*k≤cur.size:=by
     rw [h2];exact Nat.mul_le_mul_right _ (by omega)
    rw [Nat.add_mul,Nat.one_mul] at hle
    obtain ⟨v,x'',hrun,hk,hv'⟩:=run_loadVar_part (P:=P) ht (o':=(g.base id+i)*k) (off:=off) h1 (cs:=x'.cells) (by rw [hx'.1];exact hle) (fun j y hj=>.rd (h4 i j x' y hxi hj)) hp
    exact ⟨_,v,x'',vx.optr_inv,hrun,.inr hk,hv'⟩
  ·exact h.elim
 ·exact h.elim
theorem s_ld {n:Option Nat} {x:Opd} (hok:(MIns.ld n x).ok P o.op=true) (hR:Rel P c g σ a w) (hob:∀id o,ob id=some o→find id σ.heap=some o) {d:Nat} (h:stepV P (.ld n x) d [x.ev σ.env] ob K L) (hF:Fin o c g σ a w K L K'):o.wp P a w K' Q':=by
 have:∃t y,o.op=.load t y∧x.ok y=true∧aggN P t=some n:=by
  cases ho:o.op<;>rw [ho] at hok<;>try (simp [MIns.ok] at hok;done)
  simp [MIns.ok] at hok
  exact ⟨_,_,rfl,hok.1,hok.2⟩
 obtain ⟨t,y,ho,hx,ht⟩:=this
 simp only [stepV] at h
 obtain ⟨ad,u,z,e,hrun,hk,hv⟩:=ld_run ht hR.hp hob (Opd.vr hR hx) h
 exact fin_val hR hF (by simp [execOp,ho,Instr.loadAt,e,Instr.sureAddr,hrun]) hk hv
theorem s_fld {n:Option Nat} {off:Nat} {x:Opd} (hok:(MIns.fld n off x).ok P o.op=true) (hR:Rel P c g σ a w) {d:Nat} (h:stepV P (.fld n off x) d [x.ev σ.env] ob K L) (hF:Fin o c g σ a w K L K'):o.wp P a w K' Q':=by
 have:∃t y f fs fl,o.op=.field t y f∧x.ok y=true∧P.underlying t=some (.struct fs)∧fs[f]?=some fl∧fl.offset=off∧aggN P fl.type=some n:=by
  cases ho:o.op<;>rw [ho] at hok<;>try (simp [MIns.ok] at hok;done)
  rename_i t y f
  simp only [MIns.ok,Bool.and_eq_true,fieldAgg] at hok
  obtain ⟨h1,h2⟩:=hok
  split at h2<;>try (cases h2;done)
  rename_i fs hu
  split at h2<;>try (cases h2;done)
  rename_i fl hfl
  simp at h2
  exact ⟨t,y,f,fs,fl,rfl,h1,hu,hfl,h2.1,h2.2⟩
 obtain ⟨t,y,f,fs,fl,ho,hx,hu,hfl,hoff,ht⟩:=this
 have vx:=Opd.vr hR hx
 simp only [stepV,sFld] at h
 split at h
 ·rename_i cs hc
  rw [hc] at vx
  obtain ⟨vs,hv,hl,hr⟩:=vx.agg_inv
  obtain ⟨x',hk,hx'⟩:=part_inv h
  rcases hx' with ⟨rfl,hx'⟩|⟨m,rfl,hm,rfl⟩
  ·have hlt:off<vs.size:=by rw [hl];exact (List.getElem?_eq_some_iff.1 hx').1
   refine fin_val hR hF (v:=vs.getD off undef) ?_ (.inl hk) (hr off x' hx')
   simp [execOp,ho,Instr.field,run_underlying hu,hfl,hv,asAgg,Go.part,aggN_none ht w,hoff,Array.getD_eq_getD_getElem?,hlt]
  ·obtain ⟨h1,h2⟩:=aggN_some ht
   refine fin_val hR hF (v:=.agg (vs.extract off (off+m))) ?_ (.inl hk) (.agg _ _ (by simp;omega) fun i q hi=>?_)
   ·simp [execOp,ho,Instr.field,run_underlying hu,hfl,hv,asAgg,Go.part,h1 w,h2 w,hoff]
   ·rw [List.getElem?_take] at hi
    split at hi
    ·rename_i him
     have hi':cs[off+i]?=some q:=by simpa using hi
     have hq:=hr (off+i) q hi'
     have hlt:off+i<vs.size:=by rw [hl];exact (List.getElem?_eq_some_iff.1 hi').1
     have e1:(vs.extract off (off+m)).getD i undef=vs.getD (off+i) undef:=by
      have h3:i<min (off+m) vs.size - off:=by omega
      simp [Array.getD_eq_getD_getElem?,hlt,h3]
     rw [e1];exact hq
    ·cases hi
 ·exact h.elim
theorem slice_of {t:TypeId} {k:Nat} (h:isSlice P t k=true):∃e,P.underlying t=some (.slice e)∧∀w':World,(Go.sizeOf e).run P w'=.ok k w':=by
 unfold isSlice at h
 split at h<;>try (cases h;done)
 rename_i e hu
 unfold sizeIs at h
 split at h<;>try (cases h;done)
 rename_i i hi
 refine ⟨e,hu,fun w'=>?_⟩
 have:i.size=k:=by simpa using h
 simp [Go.sizeOf,typeInfo,hi,this]
theorem s_iad {k:Nat} {x i:Opd} (hok:(MIns.iad k x i).ok P o.op=true) (hR:Rel P c g σ a w) {d:Nat} (h:stepV P (.iad k x i) d [x.ev σ.env,i.ev σ.env] ob K L) (hF:Fin o c g σ a w K L K'):o.wp P a w K' Q':=by
 have:∃t y z,o.op=.indexAddr t y z∧x.ok y=true∧i.ok z=true∧isSlice P t k=true:=by
  cases ho:o.op<;>rw [ho] at hok<;>try (simp [MIns.ok] at hok;done)
  simp [MIns.ok] at hok
  exact ⟨_,_,_,rfl,hok.1.1,hok.1.2,hok.2⟩
 obtain ⟨t,y,z,ho,hx,hi,ht⟩:=this
 obtain ⟨e,hu,hsz⟩:=slice_of ht
 have vx:=Opd.vr hR hx
 have vi:=Opd.vr hR hi
 simp only [stepV,sIad] at h
 split at h
 ·rename_i kk n hn
  rw [hn] at vi
  obtain ⟨ei,_⟩:=vi.int_inv
  have hrun:∀(ad:Addr) (len cap:Nat),a.eval y=.slice (some ad) len cap→0≤n→n<len→(execOp a.eval o).run P w=.ok (.value (.pointer (some (ad.add (n.toNat*k))))) w:=by
   intro ad len cap e1 h0 h1
   simp [execOp,ho,Instr.indexAt,ei,e1,asIntOf,run_underlying hu,h0,h1,hsz]
  split at h
  ·rename_i xs hc
   rw [hc] at vx
   obtain ⟨h0,q,hq,hql,hk⟩:=h
   have hrd:=vx.sl_inv
   have hlt:n.toNat<xs.length:=(List.getElem?_eq_some_iff.1 hq).1
   generalize a.eval y=vy at *
   cases hrd with
   | nilsl=>simp at hlt
   | slz=>simp at hlt
   | sl b o' len cap k' cur e' fz _ hS hg hl hm hcc hb hkk hr =>
    have hqq:=hkk q (List.mem_of_getElem? hq)
    have:k'=k:=by rw [←hqq.1,hql]
    subst this
    have hle:o'+(n.toNat+1)*k'≤cur.size:=by
     rcases hb with hb|hb
     ·omega
     ·exact Nat.le_trans (Nat.add_le_add_left (Nat.mul_le_mul_right _ (by omega)) _) hb
    rw [Nat.add_mul,Nat.one_mul] at hle
    have:=hrun ⟨b,o',none⟩ len cap rfl h0 (by omega)
    refine fin_val hR hF this (.inr hk) ?_
    rw [show (⟨b,o',none⟩:Addr).add (n.toNat*k')=⟨b,o'+n.toNat*k'+0,none⟩ from Addr.add_lit _ _ _]
    exact .eptr b _ 0 cur e' fz q hS hg (by rw [hql];omega) fun j cc hj=>hr n.toNat j q cc hq hj
  ·rename_i id k' lo m hc
   rw [hc] at vx
   by_cases hkk:Nat.beq k k'=true
   case neg=>simp [hkk] at h
   simp only [hkk,cond_true] at h
   have:=Nat.eq_of_beq_eq_true hkk;subst this
   obtain ⟨⟨h0,h1⟩,hk⟩:=h
   rcases vx.osl_inv with ⟨_,_,hz⟩|⟨hn',o',cc,hv,ho',hcap,hlc,_⟩
   ·omega
   ·refine fin_val hR hF (hrun _ _ _ hv h0 h1) (.inl hk) ?_
    have ho'':o'=(g.base id+lo)*k:=by
     rcases ho' with h|h
     ·omega
     ·exact h
    rw [show (⟨g.ρ id,o',none⟩:Addr).add (n.toNat*k)=⟨g.ρ id,(g.base id+(lo+n.toNat))*k+0,none⟩ from by
     rw [show (⟨g.ρ id,o',none⟩:Addr).add (n.toNat*k)=⟨g.ρ id,o'+n.toNat*k,none⟩ from Addr.add_lit _ _ _,ho'',Nat.add_zero,←Nat.add_mul,Nat.add_assoc]]
    exact .optr _ _ _ _
  ·exact h.elim
 ·exact h.elim
theorem strT {t:TypeId} (h:isStrT P t=true):P.underlying t=some .string:=by
 unfold isStrT at h;split at h<;>simp_all
theorem s_idx {x i:Opd} (hok:(MIns.idx x i).ok P o.op=true) (hR:Rel P c g σ a w) {d:Nat} (h:stepV P (.idx x i) d [x.ev σ.env,i.ev σ.env] ob K L) (hF:Fin o c g σ a w K L K'):o.wp P a w K' Q':=by
 have:∃t y z,o.op=.index t y z∧x.ok y=true∧i.ok z=true∧P.underlying t=some .string:=by
  cases ho:o.op<;>rw [ho] at hok<;>try (simp [MIns.ok] at hok;done)
  simp [MIns.ok] at hok
  exact ⟨_,_,_,rfl,hok.1.1,hok.1.2,strT hok.2⟩
 obtain ⟨t,y,z,ho,hx,hi,ht⟩:=this
 have vx:=Opd.vr hR hx
 have vi:=Opd.vr hR hi
 simp only [stepV,sIdx] at h
 split at h
 ·rename_i s k n hc hn
  rw [hc] at vx;rw [hn] at vi
  obtain ⟨b,eb,hb,_⟩:=vx.str_inv
  obtain ⟨ei,_⟩:=vi.int_inv
  obtain ⟨⟨h0,h1⟩,hk⟩:=h
  have hlt:n.toNat<b.size:=by
   have:b.size=s.length:=by rw [←hb,Array.length_toList];rfl
   omega
  have hgb:b[n.toNat]?=some (s.getD n.toNat 0):=by
   have:b[n.toNat]?=b.data[n.toNat]?:=by
    rw [ByteArray.getElem?_lt' b _ hlt]
    have hlt':n.toNat<b.data.size:=hlt
    rw [Array.getElem?_eq_getElem hlt']
    rfl
   rw [this,←Array.getElem?_toList,hb]
   have:n.toNat<s.length:=by omega
   simp [this]
  refine fin_val hR hF (v:=.int .u8 (s.getD n.toNat 0).toNat) ?_ (.inl hk) (.rd (.int _ _ ?_))
  ·simp only [execOp,ho,Instr.index,ei,eb,asIntOf,Sem.run_bind,Sem.run_pure,Result.andThen_ok,run_underlying ht,h0,if_true,hgb]
  ·rw [rng_iff]
   have:=(s.getD n.toNat 0).toNat_lt
   simp only [rng]
   omega
 ·exact h.elim
theorem s_len {st:Bool} {x:Opd} (hok:(MIns.len st x).ok P o.op=true) (hR:Rel P c g σ a w) {d:Nat} (h:stepV P (.len st x) d [x.ev σ.env] ob K L) (hF:Fin o c g σ a w K L K'):o.wp P a w K' Q':=by
 have:∃cl y t,o.op=.call cl∧cl.callee=.builtin .len∧cl.args=#[y]∧cl.argTypes=#[t]∧x.ok y=true∧((P.underlying t=some .string∧st=true)∨((∃e,P.underlying t=some (.slice e))∧st=false)):=by
  cases ho:o.op<;>rw [ho] at hok<;>try (simp [MIns.ok] at hok;done)
  rename_i cl
  obtain ⟨callee,args,ts⟩:=cl
  cases callee<;>try (simp [MIns.ok] at hok;done)
  rename_i b
  cases b<;>try (simp [MIns.ok] at hok;done)
  simp only [MIns.ok] at hok
  split at hok
  ·rename_i y t he1 he2
   simp only [Bool.and_eq_true] at hok
   refine ⟨_,y,t,rfl,rfl,Array.toList_inj.1 (by simpa using he1),Array.toList_inj.1 (by simpa using he2),hok.1,?_⟩
   have h2:=hok.2
   split at h2
   ·rename_i hu;exact .inl ⟨hu,h2⟩
   ·rename_i e hu;exact .inr ⟨⟨e,hu⟩,by simpa using h2⟩
   ·cases h2
  ·cases hok
 obtain ⟨cl,y,t,ho,hcl,hargs,hts,hx,ht⟩:=this
 have vx:=Opd.vr hR hx
 simp only [stepV,sLen] at h
 have fin:∀(n:Nat),(Builtin.len_ #[t] o.type #[a.eval y]).run P w=.ok (goInt n) w→n≤maxLen→K (evl (.int .i64 n))→o.wp P a w K' Q':=by
  intro n hrun hm hk
  refine fin_val hR hF (v:=goInt n) ?_ (.inl hk) (.rd (.int _ _ ?_))
  ·simp [execOp,ho,resolve,hcl,hargs,hts,invoke,builtin,hrun]
  ·rw [rng_iff];simp only [rng,maxLen] at *;omega
 rcases ht with ⟨hu,rfl⟩|⟨⟨e,hu⟩,rfl⟩
 ·cases hc:x.ev σ.env<;>simp only [hc,cond_true] at h<;>try exact h.elim
  rename_i s
  rw [hc] at vx
  obtain ⟨b,eb,hb,hm⟩:=vx.str_inv
  have hs:b.size=s.length:=by rw [←hb,Array.length_toList];rfl
  exact fin s.length (by simp [eb,Builtin.len_,run_underlying hu,hs]) (by omega) h
 ·have hrun:∀ad n cap,a.eval y=.slice ad n cap→(Builtin.len_ #[t] o.type #[a.eval y]).run P w=.ok (goInt n) w:=by
   intro ad n cap e1;simp [e1,Builtin.len_,run_underlying hu]
  cases hc:x.ev σ.env<;>simp only [hc,cond_false] at h<;>try exact h.elim
  ·rw [hc] at vx
   exact fin 0 (hrun _ _ _ vx.nils_inv) (by simp) h
  ·rename_i xs
   rw [hc] at vx
   have hrd:=vx.sl_inv
   generalize hvy:a.eval y=vy at hrd
   cases hrd with
   | nilsl=>exact fin 0 (hrun _ _ _ hvy) (by simp) h
   | slz a0 cap0=>exact fin 0 (hrun _ _ _ hvy) (by simp) h
   | sl b o' len cap k' cur e' fz _ hS hg hl hm hcc hb hkk hr =>
    rw [hl] at h
    exact fin len (hrun _ _ _ hvy) hm h
  ·rename_i id k lo n
   rw [hc] at vx
   rcases vx.osl_inv with ⟨_,hv,hz⟩|⟨hn',o',cc,hv,ho',hcap,hlc,hm⟩
   ·subst hz;exact fin 0 (hrun _ _ _ hv) (by simp) h
   ·exact fin n (hrun _ _ _ hv) (by omega) h
end
end Go.Ab
