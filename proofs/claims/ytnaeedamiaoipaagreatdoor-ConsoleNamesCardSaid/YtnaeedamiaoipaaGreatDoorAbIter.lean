/- The abstract layer: iterators, and the contexts of a range over a function. -/
import Derived.Test.YtnaeedamiaoipaaGreatDoorAbIn
set_option linter.all false
namespace Go.Ab
open Go.RowKit
mutual
def V.within (l:List Nat):V→Bool
 | .ptr id _=>mem id l
 | .osl id _ _ _=>mem id l
 | .optr id _ _ _=>mem id l
 | .omap id=>mem id l
 | .bptr id=>mem id l
 | .agg cs=>V.withinL l cs
 | .nsl z _ _=>mem z l
 | .nsmap z _ _ _=>mem z l
 | .at_ z _=>mem z l
 | .tup cs=>V.withinL l cs
 | .fn _ cs=>V.withinL l cs
 | _=>true
def V.withinL (l:List Nat):List V→Bool
 | []=>true
 | x::r=>x.within l&&V.withinL l r
end
theorem hasL_iff {n:Nat}:∀{l:List V},V.hasL n l=true↔∃x∈l,x.has n=true
 | []=>by simp [V.hasL]
 | y::r=>by simp [V.hasL,hasL_iff (l:=r)]
theorem withinL_iff {l:List Nat}:∀{cs:List V},V.withinL l cs=true↔∀x∈cs,x.within l=true
 | []=>by simp [V.withinL]
 | y::r=>by simp [V.withinL,withinL_iff (cs:=r)]
theorem within_has {l:List Nat} {id:Nat}:∀{x:V},x.within l=true→x.has id=true→id∈l
 | .ptr i _,h,hh=>by
  simp only [V.within,V.has] at h hh
  rw [Nat.eq_of_beq_eq_true hh];exact mem_iff.1 h
 | .osl i _ _ _,h,hh=>by
  simp only [V.within,V.has] at h hh
  rw [Nat.eq_of_beq_eq_true hh];exact mem_iff.1 h
 | .optr i _ _ _,h,hh=>by
  simp only [V.within,V.has] at h hh
  rw [Nat.eq_of_beq_eq_true hh];exact mem_iff.1 h
 | .omap i,h,hh=>by
  simp only [V.within,V.has] at h hh
  rw [Nat.eq_of_beq_eq_true hh];exact mem_iff.1 h
 | .bptr i,h,hh=>by
  simp only [V.within,V.has] at h hh
  rw [Nat.eq_of_beq_eq_true hh];exact mem_iff.1 h
 | .nsl i _ _,h,hh=>by
  simp only [V.within,V.has] at h hh
  rw [Nat.eq_of_beq_eq_true hh];exact mem_iff.1 h
 | .nsmap i _ _ _,h,hh=>by
  simp only [V.within,V.has] at h hh
  rw [Nat.eq_of_beq_eq_true hh];exact mem_iff.1 h
 | .at_ i _,h,hh=>by
  simp only [V.within,V.has] at h hh
  rw [Nat.eq_of_beq_eq_true hh];exact mem_iff.1 h
 | .agg cs,h,hh=>by
  simp only [V.within,V.has] at h hh
  obtain ⟨x,hx,hxh⟩:=hasL_iff.1 hh
  exact within_has (withinL_iff.1 h x hx) hxh
 | .tup cs,h,hh=>by
  simp only [V.within,V.has] at h hh
  obtain ⟨x,hx,hxh⟩:=hasL_iff.1 hh
  exact within_has (withinL_iff.1 h x hx) hxh
 | .fn f cs,h,hh=>by
  simp only [V.within,V.has] at h hh
  obtain ⟨x,hx,hxh⟩:=hasL_iff.1 hh
  exact within_has (withinL_iff.1 h x hx) hxh
 | .bool _,_,hh|.int _ _,_,hh|.str _,_,hh|.nils,_,hh|.nilp,_,hh|.nilm,_,hh|.nilf,_,hh|.nili,_,hh|.sl _,_,hh|.eptr _ _,_,hh|.any,_,hh=>by simp [V.has] at hh
def blks (g:Gh) (H:Heap) (b:Nat):Prop:=∃id o,find id H=some o∧¬g.nil id∧g.ρ id=b
def ItStep (B:Nat→Prop) (W W':World):Prop :=
 W'.os=W.os∧W'.tape=W.tape∧W'.output=W.output∧W.heap.size≤W'.heap.size∧∀b,b<W.heap.size→¬B b→W'.heap[b]?=W.heap[b]?
def ItKeep (g:Gh) (H:Heap) (W W':World):Prop:=Keep g.S W W'∧∀b,blks g H b→W'.heap[b]?=W.heap[b]?
def AIter (P:Program) (gf:Nat) (caps:List V) (Hc:Heap) (xss:List (List V)):Prop :=
 callable P gf=true∧∀(g:Gh) (w:World) (lb:Array Value),HRel P g w Hc→lb.size=caps.length→(∀(i:Nat) (x:V),caps[i]?=some x→VR g w (lb.getD i undef) x) →
  ∀ (l:Nat) (J:Nat→World→Prop) (Jx:World→Prop),
   (∀k W W',J k W→ItStep (blks g Hc) W W'→J k W')→(∀W W',Jx W→ItStep (blks g Hc) W W'→Jx W') →
   (∀k xs W vals,xss[k]?=some xs→vals.size=xs.length→(∀(i:Nat) (x:V),xs[i]?=some x→VR g W (vals.getD i undef) x)→J k W →
    YieldAt (WF none) 0 P l vals W fun e W'=>(e=.returned (.bool true)∧J (k+1) W'∧ItKeep g Hc W W')∨(e=.returned (.bool false)∧Jx W')) →
   J 0 w→CallsIn (WF none) 0 P gf (#[.func (.yield l) #[] #[]]++lb) w fun e W'=>(∃v,e=.returned v)∧(J xss.length W'∨Jx W')
structure Ctx.le (c c':Ctx):Prop where
 w0:c'.w0=c.w0
 g0:c'.g0=c.g0
 H0:c'.H0=c.H0
 nt:c'.nt=c.nt
 hm:c'.hm=c.hm
 gp:c'.gp=c.gp
 wp:c'.wp=c.wp
 kp:∃k,c'.kp=k++c.kp
 dfr:∃Ds:List Nat,c'.dfr=Ds.map (fun D=>{ target:=.collected D,args:=#[] })++c.dfr∧Ds.Nodup∧∀D∈Ds,(D,.deferred (some []))∈c'.kp∧c.free D
theorem Ctx.le.refl (c:Ctx):c.le c:=⟨rfl,rfl,rfl,rfl,rfl,rfl,rfl,⟨[],rfl⟩,⟨[],rfl,List.nodup_nil,fun _ h=>by cases h⟩⟩
theorem Ctx.le.trans {a b c:Ctx} (h:a.le b) (k:b.le c):a.le c:=by
 obtain ⟨k1,e1⟩:=h.kp
 obtain ⟨k2,e2⟩:=k.kp
 obtain ⟨D1,f1,n1,m1⟩:=h.dfr
 obtain ⟨D2,f2,n2,m2⟩:=k.dfr
 refine ⟨k.w0.trans h.w0,k.g0.trans h.g0,k.H0.trans h.H0,k.nt.trans h.nt,k.hm.trans h.hm,k.gp.trans h.gp,k.wp.trans h.wp,⟨k2++k1,by rw [e2,e1,List.append_assoc]⟩,
  ⟨D2++D1,by rw [f2,f1,List.map_append,List.append_assoc],List.nodup_append.2 ⟨n2,n1,fun x hx y hy e=>?_⟩,fun D hD=>?_⟩⟩
 ·subst e
  exact (m2 x hx).2 _ (m1 x hy).1
 ·rcases List.mem_append.1 hD with h|h
  ·exact ⟨(m2 D h).1,fun o ho=>(m2 D h).2 o (by rw [e1];exact List.mem_append_right _ ho)⟩
  ·exact ⟨by rw [e2];exact List.mem_append_right _ (m1 D h).1,(m1 D h).2⟩
section
variable {P:Program} {c c2:Ctx} {g:Gh} {σ:St} {a:Act} {w w':World}
theorem HRel.other {H:Heap} (h:HRel P g w H) (hf:Frm c g w H) (hsz:w.heap.size≤w'.heap.size) (hb:∀b,b<w.heap.size→c.free b→w'.heap[b]?=w.heap[b]?):HRel P g w' H∧Keep g.S w w':=by
 have hk:Keep g.S w w':=fun b hS=>hb b (h.lt b hS) (hf.sub b hS).2
 refine ⟨⟨fun id o ho=>(h.obj id o ho).mono (g':=g) hk (fun _ h=>h) (Gh.agree.refl _ _) (fun hn=>hb _ ((h.obj id o ho).block hn) (hf.own id o ho hn).2) (fun n _=>Gh.agree.refl _ _) hsz,h.inj,h.sep,fun b hS=>Nat.lt_of_lt_of_le (h.lt b hS) hsz,
  fun w2 hw2=>h.tabs w2 fun b hS=>(hw2 b hS).trans (hk b hS)⟩,hk⟩
theorem Frm.other {H:Heap} {ds:List Deferred} (hf:Frm c g w H) (h:HRel P g w H) (hd:Dfr c w ds) (e0:c2.w0=c.w0) (eg:c2.g0=c.g0) (eh:c2.hm=c.hm) (hgp:∀b,c2.gp.S b→g.S b) (hpar:∀id o,find id c2.H0=some o→c2.gp.agree g id)
  (hos:w'.os=w.os) (ht:w'.tape=w.tape) (ho:w'.output=w.output) (hsz:w.heap.size≤w'.heap.size) (hb:∀b,b<w.heap.size→c.free b→w'.heap[b]?=w.heap[b]?) (hfr:∀b,b<w.heap.size→(g.S b∨blks g H b)→c.free b→c2.free b):Frm c2 g w' H:=by
 have hM:∀b,c2.M b↔c.M b:=fun b=>by simp only [Ctx.M,eg,eh]
 refine ⟨by rw [e0,hos,hf.os],by rw [e0,ht,hf.tape],by rw [e0,ho,hf.output],by rw [e0];exact Nat.le_trans hf.size hsz,fun b hlt hm=>?_,fun id o hi hn=>⟨?_,?_⟩,fun b hS=>?_,fun b hS=>⟨?_,?_⟩,hpar⟩
 ·rw [e0] at hlt ⊢
  refine (hb b (Nat.lt_of_lt_of_le hlt hf.size) fun o hm'=>?_).trans (hf.old b hlt fun h=>hm ((hM b).2 h))
  rcases (hd.2.1 b o hm').1 with h1|h1
  ·omega
  ·exact hm ((hM b).2 h1)
 ·rw [e0,hM];exact (hf.own id o hi hn).1
 ·exact hfr _ ((h.obj id o hi).block hn) (.inr ⟨id,o,hi,hn,rfl⟩) (hf.own id o hi hn).2
 ·rcases hS with hS|hS
  ·rw [eg] at hS;exact hf.sup b (.inl hS)
  ·exact hgp b hS
 ·rw [e0,eg,hM];exact (hf.sub b hS).1
 ·exact hfr _ (h.lt b hS) (.inl hS) (hf.sub b hS).2
end
def pinH (H0:Heap) (pins:List Nat):Heap:=pins.map (fun i=>(i,Obj'.iter [] none))++H0
theorem find_pinH {H0:Heap} {id:Nat}:∀{pins:List Nat},(∃o,find id (pinH H0 pins)=some o)↔(id∈pins∨∃o,find id H0=some o)
 | []=>by simp [pinH]
 | p::r=>by
  have ih:=find_pinH (H0:=H0) (id:=id) (pins:=r)
  simp only [pinH] at ih
  simp only [pinH,List.map_cons,List.cons_append,find]
  cases hb:Nat.beq id p with
  | true=>simp [Nat.eq_of_beq_eq_true hb]
  | false =>
   have:id≠p:=fun e=>by rw [e,Nat.beq_refl] at hb;cases hb
   simp only [cond_false,ih,List.mem_cons,this,false_or]
def putPs:List Nat→List V→List (Nat×V)→List (Nat×V)
 | p::ps,x::xs,e=>putPs ps xs (put p x e)
 | _,_,e=>e
def envIn (pins:List Nat):List (Nat×V)→Bool
 | []=>true
 | (_,x)::r=>x.within pins&&envIn pins r
theorem envIn_find {pins:List Nat} {s:Nat} {x:V}:∀{e:List (Nat×V)},envIn pins e=true→find s e=some x→x.within pins=true
 | (n,y)::r,h,hf=>by
  simp only [envIn,Bool.and_eq_true] at h
  simp only [find] at hf
  cases hb:Nat.beq s n with
  | true=>rw [hb] at hf;cases hf;exact h.1
  | false=>rw [hb] at hf;exact envIn_find h.2 hf
def EnvOK (nt:Nat) (g:Gh) (w:World) (tmps:Array Value) (e:List (Nat×V)):Prop:=∀s x,find s e=some x→s<nt∧VR g w (tmps.getD s undef) x
theorem EnvOK.puts {nt:Nat} {g:Gh} {w:World}:∀{ps:List Nat} {xs:List V} {vs:List Value} {tmps:Array Value} {e:List (Nat×V)},EnvOK nt g w tmps e→tmps.size=nt→(∀p∈ps,p<nt)→xs.length=vs.length →
  (∀(i:Nat) (x:V),xs[i]?=some x→VR g w ((vs[i]?).getD undef) x) →
  EnvOK nt g w ((ps.zip vs).foldl (fun t (p,v)=>t.setIfInBounds p v) tmps) (putPs ps xs e)∧((ps.zip vs).foldl (fun t (p,v)=>t.setIfInBounds p v) tmps).size=nt
 | [],xs,vs,tmps,e,h,hs,_,_,_=>by cases xs<;>exact ⟨h,hs⟩
 | p::ps,[],[],tmps,e,h,hs,_,_,_=>⟨h,hs⟩
 | p::ps,x::xs,v::vs,tmps,e,h,hs,hp,hl,hv=>by
  simp only [putPs,List.zip_cons_cons,List.foldl_cons]
  refine EnvOK.puts (fun s y hy=>?_) (by simp [hs]) (fun q hq=>hp q (List.mem_cons_of_mem _ hq)) (by simpa using hl) fun i y hy=>by simpa using hv (i+1) y (by simpa using hy)
  have hpn:=hp p List.mem_cons_self
  rw [find_put] at hy
  by_cases e1:s=p
  ·subst e1
   simp at hy;subst hy
   refine ⟨hpn,?_⟩
   have:s<tmps.size:=by omega
   simpa [Array.getD_eq_getD_getElem?,this] using hv 0 x rfl
  ·simp only [e1,if_false] at hy
   obtain ⟨h1,h2⟩:=h s y hy
   have hne:¬p=s:=fun e=>e1 e.symm
   exact ⟨h1,by simpa [Array.getD_eq_getD_getElem?,Array.getElem?_setIfInBounds_ne hne] using h2⟩
end Go.Ab
