/- The abstract layer, part 12: what a function does, shown of its body. -/
import Derived.Test.YtnaeedamiaoipaaGreatDoorAbMC
set_option linter.all false
namespace Go.Ab
open Go.RowKit
def sel:List Nat→Heap→Heap
 | [],_=>[]
 | n::r,H=>match find n H with
  | some o=>(n,o)::sel r H
  | none=>sel r H
def selOK:List Nat→Heap→Bool
 | [],_=>true
 | n::r,H=>inHeap n H&&!mem n r&&selOK r H
def Obj'.within (l:List Nat):Obj'→Bool
 | .cells cs _=>V.withinL l cs
 | .nmap z _ _ _=>mem z l
 | _=>true
def withinH (l:List Nat):Heap→Bool
 | []=>true
 | (_,o)::r=>o.within l&&withinH l r
def enumE:Nat→List V→List (Nat×V)
 | _,[]=>[]
 | n,x::r=>(n,x)::enumE (n+1) r
inductive RS where
 | t (s:Nat)
 | c (s:Nat) (n:Option Nat)
def resAll (σ:St):List RS→(List V→Prop)→Prop
 | [],K=>K []
 | .t s::r,K=>resAll σ r fun vs=>K (get s σ.env::vs)
 | .c s n::r,K=>sLd n (get s σ.env) (fun id=>find id σ.heap) (fun x=>resAll σ r fun vs=>K (x::vs)) (fun x=>resAll σ r fun vs=>K (x::vs))
def tupv:List V→V
 | [x]=>x
 | xs=>.tup xs
def resOK (P:Program):List RS→List ResultVar→Bool
 | [],[]=>true
 | .t s::r,.tmp t::q=>Nat.beq s t&&resOK P r q
 | .c s n::r,.cell t ty::q=>Nat.beq s t&&decide (aggN P ty=some n)&&resOK P r q
 | _,_=>false
def endQ (rids:List Nat) (Q:V→Heap→Prop) (σ:St) (v:V):Prop :=
 bif selOK rids σ.heap&&v.within rids&&withinH rids (sel rids σ.heap) then Q v (sel rids σ.heap) else False
def atEnd (rids:List Nat) (rs:List RS) (Q:V→Heap→Prop) (σ:St):Prop:=resAll σ rs fun vs=>endQ rids Q σ (tupv vs)
def atEndN (H0:Heap) (ns:List Note) (rids:List Nat) (rs:List RS) (Q:V→Heap→Prop) (σ:St):Prop:=stepNs H0 ns σ (atEnd rids rs Q)
section
variable {P:Program}
theorem find_sel {n:Nat} {o:Obj'}:∀{l:List Nat} {H:Heap},find n (sel l H)=some o→n∈l∧find n H=some o
 | [],_,h=>by cases h
 | m::r,H,h=>by
  simp only [sel] at h
  cases hm:find m H with
  | none =>
   rw [hm] at h
   obtain ⟨h1,h2⟩:=find_sel (l:=r) h
   exact ⟨List.mem_cons_of_mem _ h1,h2⟩
  | some o' =>
   rw [hm] at h
   simp only [find] at h
   cases hb:Nat.beq n m with
   | true =>
    rw [hb] at h;cases h
    have e:=Nat.eq_of_beq_eq_true hb;subst e
    exact ⟨List.mem_cons_self,hm⟩
   | false =>
    rw [hb] at h
    obtain ⟨h1,h2⟩:=find_sel (l:=r) h
    exact ⟨List.mem_cons_of_mem _ h1,h2⟩
theorem sel_find {n:Nat}:∀{l:List Nat} {H:Heap},selOK l H=true→n∈l→∃o,find n (sel l H)=some o
 | m::r,H,h,hm=>by
  simp only [selOK,Bool.and_eq_true] at h
  obtain ⟨⟨h1,h2⟩,h3⟩:=h
  obtain ⟨o,ho⟩:=inHeap_find.1 h1
  simp only [sel,ho,find]
  cases hb:Nat.beq n m with
  | true=>exact ⟨o,rfl⟩
  | false =>
   rcases List.mem_cons.1 hm with e|hm
   ·rw [e,Nat.beq_refl] at hb;cases hb
   ·exact sel_find h3 hm
theorem withinH_find {l:List Nat} {n:Nat} {o:Obj'}:∀{H:Heap},withinH l H=true→find n H=some o→o.within l=true
 | (m,y)::r,h,hf=>by
  simp only [withinH,Bool.and_eq_true] at h
  simp only [find] at hf
  cases hb:Nat.beq n m with
  | true=>rw [hb] at hf;cases hf;exact h.1
  | false=>rw [hb] at hf;exact withinH_find h.2 hf
theorem obj_within_has {l:List Nat} {id:Nat} {o:Obj'} (h:o.within l=true) (hh:o.has id=true):id∈l:=by
 cases o with
 | cells cs ty =>
  simp only [Obj'.within,Obj'.has] at h hh
  obtain ⟨x,hx,hxh⟩:=hasL_iff.1 hh
  exact within_has (withinL_iff.1 h x hx) hxh
 | nmap z k kd es =>
  simp only [Obj'.within,Obj'.has] at h hh
  rw [Nat.eq_of_beq_eq_true hh];exact mem_iff.1 h
 | _=>simp [Obj'.has] at hh
theorem find_enumE {s:Nat} {x:V}:∀{l:List V} {n:Nat},find s (enumE n l)=some x→n≤s∧l[s - n]?=some x
 | [],_,h=>by cases h
 | y::r,n,h=>by
  simp only [enumE,find] at h
  cases hb:Nat.beq s n with
  | true =>
   rw [hb] at h;cases h
   have e:=Nat.eq_of_beq_eq_true hb;subst e
   exact ⟨Nat.le_refl _,by simp⟩
  | false =>
   rw [hb] at h
   obtain ⟨h1,h2⟩:=find_enumE (l:=r) h
   have e:s - n=(s - (n+1))+1:=by omega
   exact ⟨by omega,by rw [e];exact h2⟩
open Classical in
noncomputable def Gh.mix (g g':Gh) (l:List Nat):Gh :=
 ⟨g'.S,fun i=>if i∈l then g'.ρ i else g.ρ i,fun i=>if i∈l then g'.base i else g.base i,fun i=>if i∈l then g'.cap i else g.cap i,fun i=>if i∈l then g'.nil i else g.nil i⟩
theorem mix_in {g g':Gh} {l:List Nat} {i:Nat} (h:i∈l):g'.agree (g.mix g' l) i:=by simp [Gh.agree,Gh.mix,h]
theorem mix_out {g g':Gh} {l:List Nat} {i:Nat} (h:i∉l):g.agree (g.mix g' l) i:=by simp [Gh.agree,Gh.mix,h]
theorem get_vr {c:Ctx} {g:Gh} {σ:St} {a:Act} {w:World} (hR:Rel P c g σ a w) (s:Nat):VR g w (a.tmps.getD s undef) (get s σ.env):=by
 rw [get_find]
 cases hf:find s σ.env with
 | none=>exact .any _
 | some x=>exact (hR.env s x hf).2
theorem resAll_run {c:Ctx} {g:Gh} {σ:St} {a:Act} {w:World} (hR:Rel P c g σ a w) {F:ResultVar→Sem Value} (hF:∀t,F (.tmp t)=pure (a.tmps.getD t undef))
  (hG:∀t ty ad u,a.tmps.getD t undef=.pointer (some ad)→(loadVar ty ad).run P w=.ok u w→(F (.cell t ty)).run P w=.ok u w) :
  ∀{rs:List RS} {q:List ResultVar} {K:List V→Prop},resOK P rs q=true→resAll σ rs K→∃us vs,(q.mapM F).run P w=.ok us w∧us.length=vs.length∧(∀(i:Nat) (x:V),vs[i]?=some x→VR g w (us.toArray.getD i undef) x)∧K vs
 | [],[],K,_,h=>⟨[],[],by simp,rfl,fun i x hx=>by simp at hx,h⟩
 | .t s::r,.tmp t::q,K,hok,h=>by
  simp only [resOK,Bool.and_eq_true] at hok
  have e:=Nat.eq_of_beq_eq_true hok.1;subst e
  obtain ⟨us,vs,h1,h2,h3,h4⟩:=resAll_run hR hF hG hok.2 h
  refine ⟨a.tmps.getD s undef::us,get s σ.env::vs,?_,by simp [h2],fun i x hx=>?_,h4⟩
  ·simp only [List.mapM_cons,Sem.run_bind,hF,Sem.run_pure,Result.andThen_ok,h1]
  ·cases i with
   | zero=>simp at hx;subst hx;simpa using get_vr hR s
   | succ i=>simp at hx;simpa [Array.getD_eq_getD_getElem?] using h3 i x hx
 | .c s n::r,.cell t ty::q,K,hok,h=>by
  simp only [resOK,Bool.and_eq_true,decide_eq_true_eq] at hok
  have e:=Nat.eq_of_beq_eq_true hok.1.1;subst e
  obtain ⟨ad,u,z,e1,e2,e3,e4⟩:=ld_run hok.1.2 hR.hp (fun _ _ h=>h) (get_vr hR s) h
  have e3:resAll σ r fun vs=>K (z::vs):=by rcases e3 with e3|e3<;>exact e3
  obtain ⟨us,vs,h1,h2,h3,h4⟩:=resAll_run hR hF hG hok.2 e3
  refine ⟨u::us,z::vs,?_,by simp [h2],fun i x hx=>?_,h4⟩
  ·simp only [List.mapM_cons,Sem.run_bind,hG s ty ad u e1 e2,Sem.run_pure,Result.andThen_ok,h1]
  ·cases i with
   | zero=>simp at hx;subst hx;simpa using e4
   | succ i=>simp at hx;simpa [Array.getD_eq_getD_getElem?] using h3 i x hx
 | [],_::_,K,hok,h=>by simp [resOK] at hok
 | .t _::_,[],K,hok,h=>by simp [resOK] at hok
 | .c _ _::_,[],K,hok,h=>by simp [resOK] at hok
 | .t _::_,.cell _ _::_,K,hok,h=>by simp [resOK] at hok
 | .c _ _::_,.tmp _::_,K,hok,h=>by simp [resOK] at hok
theorem results_aux {c:Ctx} {g:Gh} {σ:St} {a:Act} {w:World} {l:List ResultVar} {rs:List RS} (hR:Rel P c g σ a w) (hok:resOK P rs l=true) {K:V→Prop} (h:resAll σ rs fun vs=>K (tupv vs)) {F:ResultVar→Sem Value}
  (hF:∀t,F (.tmp t)=pure (a.tmps.getD t undef)) (hG:∀t ty ad u,a.tmps.getD t undef=.pointer (some ad)→(loadVar ty ad).run P w=.ok u w→(F (.cell t ty)).run P w=.ok u w) :
  ∃v x,((((l.mapM F).run P w).andThen fun a w'=>.ok a.toArray w').andThen fun a w'=>(pure (if h:a.size=1 then a[0] else Value.tuple a):Sem Value).run P w')=.ok v w∧VR g w v x∧K x:=by
 obtain ⟨us,vs,h1,h2,h3,h4⟩:=resAll_run hR hF hG hok h
 rw [h1]
 match us,vs with
 | [u],[x]=>exact ⟨u,x,by simp,by simpa using h3 0 x rfl,h4⟩
 | [],[]=>exact ⟨.tuple #[],.tup [],by simp,.tup _ _ rfl fun i x hx=>by simp at hx,h4⟩
 | u1::u2::ur,x1::x2::xr=>exact ⟨.tuple (u1::u2::ur).toArray,.tup (x1::x2::xr),by simp,.tup _ _ (by simpa using h2) h3,h4⟩
 | [],_::_=>simp at h2
 | [_],[]=>simp at h2
 | [_],_::_::_=>simp at h2
 | _::_::_,[]=>simp at h2
 | _::_::_,[_]=>simp at h2
theorem results_run {c:Ctx} {g:Gh} {σ:St} {a:Act} {w:World} {fn:Func} {rs:List RS} (hR:Rel P c g σ a w) (hok:resOK P rs fn.results.toList=true) {K:V→Prop} (h:resAll σ rs fun vs=>K (tupv vs)) :
  ∃v x,(results fn a.tmps).run P w=.ok v w∧VR g w v x∧K x:=by
 unfold results
 rw [Array.mapM_eq_mapM_toList]
 simp only [Sem.run_bind,Sem.run_map]
 exact results_aux hR hok h (fun t=>rfl) (fun t ty ad u e1 e2=>by simp [e1,asAddr,e2])
theorem end_of {g:Gh} {w:World} {H:Heap} {nt:Nat} {g':Gh} {σ:St} {a:Act} {w':World} {rids:List Nat} {x:V} {Q:V→Heap→Prop} {v:Value} (hR:Rel P ⟨w,g,H,nt,[],[],H,g,w⟩ g' σ a w')
  (hv:VR g' w' v x) (h:endQ rids Q σ x):∃r H' g'',Q r H'∧HRel P g'' w' H'∧VR g'' w' v r∧Frm ⟨w,g,H,0,[],[],H,g,w⟩ g'' w' H'∧(∀id,find id H'=none→g.agree g'' id):=by
 unfold endQ at h
 cases hc:selOK rids σ.heap&&x.within rids&&withinH rids (sel rids σ.heap) with
 | false=>rw [hc] at h;exact h.elim
 | true =>
  rw [hc] at h
  simp only [Bool.and_eq_true] at hc
  obtain ⟨⟨h1,h2⟩,h3⟩:=hc
  have hk:Keep g'.S w' w':=fun _ _=>rfl
  have hs:∀b,g'.S b→(g.mix g' rids).S b:=fun _ h=>h
  refine ⟨_,_,g.mix g' rids,h,⟨fun id o ho=>?_,fun i j o o' hi hj hni hnj he=>?_,fun id o ho hn hS=>?_,hR.hp.lt,hR.hp.tabs⟩,hv.mono hk hs fun id hid=>mix_in (within_has h2 hid),
   ⟨hR.fr.os,hR.fr.tape,hR.fr.output,hR.fr.size,hR.fr.old,fun id o ho hn=>?_,hR.fr.sup,hR.fr.sub,fun id o ho=>?_⟩,fun id hid=>?_⟩
  ·obtain ⟨k1,k2⟩:=find_sel ho
   exact (hR.hp.obj id o k2).mono hk hs (mix_in k1) (fun _=>rfl) (fun n hn=>mix_in (obj_within_has (withinH_find h3 ho) hn)) (Nat.le_refl _)
  ·obtain ⟨k1,k2⟩:=find_sel hi
   obtain ⟨k3,k4⟩:=find_sel hj
   obtain ⟨e1,_,_,e2⟩:=mix_in (g:=g) (g':=g') k1
   obtain ⟨e3,_,_,e4⟩:=mix_in (g:=g) (g':=g') k3
   exact hR.hp.inj i j o o' k2 k4 (fun h=>hni (e2.2 h)) (fun h=>hnj (e4.2 h)) (by rw [←e1,←e3];exact he)
  ·obtain ⟨k1,k2⟩:=find_sel ho
   obtain ⟨e1,_,_,e2⟩:=mix_in (g:=g) (g':=g') k1
   rw [e1] at hS
   exact hR.hp.sep id o k2 (fun h=>hn (e2.2 h)) hS
  ·obtain ⟨k1,k2⟩:=find_sel ho
   obtain ⟨e1,_,_,e2⟩:=mix_in (g:=g) (g':=g') k1
   rw [e1]
   exact hR.fr.own id o k2 fun h=>hn (e2.2 h)
  ·by_cases hm:id∈rids
   ·exact (hR.fr.par id o ho).trans (mix_in hm)
   ·exact mix_out hm
  ·by_cases hm:id∈rids
   ·obtain ⟨o,ho⟩:=sel_find h1 hm
    rw [ho] at hid;cases hid
   ·exact mix_out hm
def shutAll:List Nat→World→World
 | [],w=>w
 | D::r,w=>shutAll r (w.putObj D (.deferred none))
theorem shutAll_facts:∀(Ds:List Nat) (w:World),(shutAll Ds w).os=w.os∧(shutAll Ds w).tape=w.tape∧(shutAll Ds w).output=w.output∧(shutAll Ds w).heap.size=w.heap.size∧∀b,b∉Ds→(shutAll Ds w).heap[b]?=w.heap[b]?
 | [],w=>⟨rfl,rfl,rfl,rfl,fun _ _=>rfl⟩
 | D::r,w=>by
  obtain ⟨h1,h2,h3,h4,h5⟩:=shutAll_facts r (w.putObj D (.deferred none))
  exact ⟨h1,h2,h3,h4.trans (by simp),fun b hb=>(h5 b fun h=>hb (List.mem_cons_of_mem _ h)).trans (World.putObj_heap_other fun e=>hb (e▸List.mem_cons_self))⟩
theorem leaves_marks {F:Fence} {n:Nat} {fn:Func} {tmps:Array Value} {R:Ending→World→Prop}:∀(Ds:List Nat) (w:World),Ds.Nodup→(∀D∈Ds,w.heap[D]?=some (.deferred (some [])))→LeavesIn F n P fn tmps R [] .returning (shutAll Ds w) →
  LeavesInM F n P fn tmps R (Ds.map fun D=>{ target:=.collected D,args:=#[] }) .returning w
 | [],w,_,_,h=>h
 | D::r,w,hn,hd,h=>by
  obtain ⟨h1,h2⟩:=List.nodup_cons.1 hn
  refine ⟨by simp,.inl ⟨D,w.putObj D (.deferred none),rfl,run_takeDeferred (hd D List.mem_cons_self),leaves_marks r _ h2 (fun E hE=>?_) h⟩⟩
  exact (World.putObj_heap_other fun e=>by subst e;exact h1 hE).trans (hd E (List.mem_cons_of_mem _ hE))
theorem calls_of {f:Nat} {fn:Func} {code:Code} {mc:MC} {args:List V} {H:Heap} {Q:V→Heap→Prop} {g:Gh} {w:World} {vals:Array Value} (ns:List Note) (rids:List Nat) (rs:List RS) (hf:P.funcs[f]?=some fn) (hb:fn.body=some code)
  (hnh:HNOK P ⟨w,g,H,fn.ntmps,[],[],H,g,w⟩ mc) (hok:mc.ok P fn.ntmps code=true) (hrs:resOK P rs fn.results.toList=true) (hn:Nat.ble args.length fn.ntmps=true) (hg:St.good ⟨enumE 0 args,H⟩=true)
  (h:factsSt ⟨enumE 0 args,H⟩→MWP P H mc (atEndN H ns rids rs Q) (fun _ _=>False) (atEndN H ns rids rs Q) ⟨enumE 0 args,H⟩) (hH:HRel P g w H) (hl:vals.size=args.length) (hv:∀(i:Nat) (x:V),args[i]?=some x→VR g w (vals.getD i undef) x) :
  Calls P f vals w fun e w'=>∃v r H' g',e=.returned v∧Q r H'∧HRel P g' w' H'∧VR g' w' v r∧Frm ⟨w,g,H,0,[],[],H,g,w⟩ g' w' H'∧(∀id,find id H'=none→g.agree g' id):=by
 refine calls_wf (r:=none) (n:=0) (callsIn_of_wp_marks hf hb trivial ?_)
 obtain ⟨c,hcd⟩:∃c:Ctx,c=⟨w,g,H,fn.ntmps,[],[],H,g,w⟩:=⟨_,rfl⟩
 have hR:Rel P c g ⟨enumE 0 args,H⟩ { tmps:=vals++Array.replicate (fn.ntmps - vals.size) undef,defers:=[] } w:=by
  rw [hcd]
  have hle:vals.size≤fn.ntmps:=by rw [hl];exact Nat.le_of_ble_eq_true hn
  refine ⟨by simp;omega,⟨rfl,fun _ _ h=>(by cases h),fun _ _=>rfl⟩,fun s x hx=>?_,hH,⟨rfl,rfl,rfl,Nat.le_refl _,fun _ _ _=>rfl,fun id o ho hn=>⟨.inr ⟨id,o,ho,hn,rfl⟩,fun _ h=>by cases h⟩,fun _ h=>h.elim id id,fun _ h=>⟨.inl h,fun _ h=>by cases h⟩,fun id _ _=>Gh.agree.refl g id⟩⟩
  obtain ⟨_,h2⟩:=find_enumE hx
  rw [Nat.sub_zero] at h2
  have hlt:s<vals.size:=by
   rw [hl];exact (List.getElem?_eq_some_iff.1 h2).1
  refine ⟨Nat.lt_of_lt_of_le hlt hle,?_⟩
  have e:(vals++Array.replicate (fn.ntmps - vals.size) undef).getD s undef=vals.getD s undef:=by
   simp [Array.getD_eq_getD_getElem?,Array.getElem?_append,hlt]
  rw [e]
  exact hv s x h2
 have fin:∀(c':Ctx) (σ:St) (g':Gh) (a:Act) (w':World),c.le c'→atEndN H ns rids rs Q σ→Rel P c' g' σ a w' →
   LeavesInM (WF none) 0 P fn a.tmps (fun e w'=>∃v r H' g',e=.returned v∧Q r H'∧HRel P g' w' H'∧VR g' w' v r∧Frm ⟨w,g,H,0,[],[],H,g,w⟩ g' w' H'∧(∀id,find id H'=none→g.agree g' id)) a.defers .returning w':=by
  intro c' σ g' a w' hle hq hr
  obtain ⟨Ds,e1,e2,e3⟩:=hle.dfr
  have e4:a.defers=Ds.map fun D=>{ target:=.collected D,args:=#[] }:=by
   rw [hr.dfr.1,e1,hcd];simp
  rw [e4]
  refine leaves_marks Ds w' e2 (fun D hD=>(hr.dfr.2.1 D _ (e3 D hD).1).2) ?_
  obtain ⟨s1,s2,s3,s4,s5⟩:=shutAll_facts Ds w'
  obtain ⟨k1,k2,k3⟩:=other3 (c2:=c) (w':=shutAll Ds w') hr.hp hr.fr hr.dfr hle.w0.symm hle.g0.symm hle.hm.symm (fun b hS=>hr.fr.sup b (.inr (by rw [hle.gp];exact hS))) (fun id o ho=>by
   have:=hr.fr.par id o (by rw [hle.H0];exact ho)
   rwa [hle.gp] at this) s1 s2 s3 (by rw [s4];exact Nat.le_refl _) (fun b _ hf=>s5 b fun hb=>hf _ (e3 b hb).1) (fun b _ _ _ o ho=>by rw [hcd] at ho;cases ho)
  have hr2:Rel P c g' σ { a with defers:=[] } (shutAll Ds w'):=by
   refine ⟨by rw [←hle.nt];exact hr.size,⟨by rw [hcd],fun b o ho=>(by rw [hcd] at ho;cases ho),fun b hS=>?_⟩,fun t x hx=>?_,k1,k2⟩
   ·refine (k3 b (hr.fr.sup b (.inr (by rw [hle.gp];exact hS)))).trans ?_
    have:=hr.dfr.2.2 b (by rw [hle.gp];exact hS)
    rwa [hle.wp] at this
   ·obtain ⟨q1,q2⟩:=hr.env t x hx
    exact ⟨by rw [←hle.nt];exact q1,q2.mono (g':=g') k3 (fun _ h=>h) fun _ _=>Gh.agree.refl _ _⟩
  have hH0:c.H0=H:=by rw [hcd]
  unfold atEndN at hq
  rw [←hH0] at hq
  obtain ⟨g',σ,hq,hr⟩:=ns_sound hq hr2
  obtain ⟨v,x,h1,h2,h0⟩:=results_run hr hrs hq
  rw [hcd] at hr
  obtain ⟨r,H',g'',h3,h4,h5,h6,h7⟩:=end_of hr h2 h0
  exact ⟨v,h1,v,r,H',g'',rfl,h3,h4,h5,h6,h7⟩
 have hm:=h (hR.factsSt hg)
 have hH0:c.H0=H:=by rw [hcd]
 rw [←hH0] at hm
 rw [hH0] at hm
 refine MC.sound mc (.inl rfl) (c:=c) (K:=atEndN H ns rids rs Q) (X:=fun _ _=>False) (R:=atEndN H ns rids rs Q) (by rw [hcd];exact hnh) ?_ (by rw [hcd];exact hok) hR (by rw [hH0];exact hm) (fun c' σ g' a w' hle hq hr=>?_) (fun _ _ _ _ _ _ _ h=>h.elim) (fun c' σ g' a w' hle hq hr=>?_)
 ·rintro _ _ ⟨v,_,_,_,h,_⟩;cases h
 ·exact fin c' σ g' a w' hle hq hr
 ·exact fin c' σ g' a w' hle hq hr
theorem acall_ofN {f:Nat} {fn:Func} {code:Code} {mc:MC} {args:List V} {H:Heap} {Q:V→Heap→Prop} (ns:List Note) (rids:List Nat) (rs:List RS) (hf:P.funcs[f]?=some fn) (hb:fn.body=some code) (hc:callable P f=true)
  (hnh:mc.nh=true) (hok:mc.ok P fn.ntmps code=true) (hrs:resOK P rs fn.results.toList=true) (hn:Nat.ble args.length fn.ntmps=true) (hg:St.good ⟨enumE 0 args,H⟩=true)
  (h:factsSt ⟨enumE 0 args,H⟩→MWP P H mc (atEndN H ns rids rs Q) (fun _ _=>False) (atEndN H ns rids rs Q) ⟨enumE 0 args,H⟩):ACall P f args H Q :=
 ⟨hc,fun g w vals hH hl hv=>calls_of ns rids rs hf hb (.of_nh hnh) hok hrs hn hg h hH hl hv⟩
end
end Go.Ab
