/- The abstract layer, part 2: what a step does to an abstract state, and that a world that has done it is described by the new one. -/
import Derived.Test.YtnaeedamiaoipaaGreatDoorAbBase
set_option linter.all false
namespace Go.Ab
open Go.RowKit
structure Eff where
 val:V
 drop:List Nat
 new:List (Nat×Obj')
def dels:List Nat→Heap→Heap
 | [],H=>H
 | n::r,H=>dels r (del n H)
def puts:List (Nat×Obj')→Heap→Heap
 | [],H=>H
 | (n,o)::r,H=>puts r (put n o H)
def Eff.heap (e:Eff) (H:Heap):Heap:=puts e.new (dels e.drop H)
def setE (d:Option Nat) (x:V) (env:List (Nat×V)):List (Nat×V) :=
 match d with
 | some d=>put d x env
 | none=>env
def St.app (σ:St) (d:Option Nat) (e:Eff):St:=⟨setE d e.val σ.env,e.heap σ.heap⟩
theorem find_dels (m:Nat):∀(l:List Nat) (H:Heap),find m (dels l H)=if m∈l then none else find m H
 | [],H=>by simp [dels]
 | n::r,H=>by
  rw [dels,find_dels m r,find_del]
  by_cases h1:m∈r<;>by_cases h2:m=n<;>simp [h1,h2]
theorem find_puts_not {m:Nat}:∀{l:List (Nat×Obj')} {H:Heap},(∀o,(m,o)∉l)→find m (puts l H)=find m H
 | [],H,_=>rfl
 | (n,o)::r,H,h=>by
  rw [puts,find_puts_not (fun o ho=>h o (List.mem_cons_of_mem _ ho)),find_put]
  have:m≠n:=fun e=>h o (by rw [e];exact List.mem_cons_self)
  simp [this]
theorem find_puts_mem {m:Nat} {o:Obj'}:∀{l:List (Nat×Obj')} {H:Heap},find m (puts l H)=some o→(∃o',(m,o')∈l)→(m,o)∈l
 | [],H,_,⟨_,h⟩=>by cases h
 | (n,o1)::r,H,h,⟨o',hm⟩=>by
  rw [puts] at h
  by_cases hr:∃o'',(m,o'')∈r
  ·exact List.mem_cons_of_mem _ (find_puts_mem h hr)
  ·rw [find_puts_not (fun o ho=>hr ⟨o,ho⟩),find_put] at h
   rcases List.mem_cons.1 hm with hm|hm
   ·cases hm
    simp at h;subst h;exact List.mem_cons_self
   ·exact absurd ⟨_,hm⟩ hr
def Eff.ids (e:Eff):List Nat:=e.drop++e.new.map (·.1)
theorem Eff.find_other {e:Eff} {H:Heap} {id:Nat} (h:id∉e.ids):find id (e.heap H)=find id H:=by
 simp only [Eff.ids,List.mem_append,not_or,List.mem_map,not_exists,not_and] at h
 rw [Eff.heap,find_puts_not (fun o ho=>h.2 _ ho rfl),find_dels,if_neg h.1]
theorem Eff.find_cases {e:Eff} {H:Heap} {id:Nat} {o:Obj'} (h:find id (e.heap H)=some o):(id,o)∈e.new∨(id∉e.ids∧find id H=some o):=by
 by_cases hn:∃o',(id,o')∈e.new
 ·exact .inl (find_puts_mem h hn)
 ·rw [Eff.heap,find_puts_not (fun o ho=>hn ⟨o,ho⟩),find_dels] at h
  by_cases hd:id∈e.drop
  ·simp [hd] at h
  ·refine .inr ⟨?_,by simpa [hd] using h⟩
   simp only [Eff.ids,List.mem_append,not_or,List.mem_map,not_exists,not_and]
   exact ⟨hd,fun p hp he=>hn ⟨p.2,by rw [←he];exact hp⟩⟩
def noEnv (n:Nat):List (Nat×V)→Bool
 | []=>true
 | (_,x)::r=>!x.has n&&noEnv n r
def noHeap (n:Nat):Heap→Bool
 | []=>true
 | (_,x)::r=>!x.has n&&noHeap n r
theorem noEnv_find {n s:Nat} {x:V}:∀{l:List (Nat×V)},noEnv n l=true→find s l=some x→x.has n=false:=by
 intro l h hf
 have hm:=mem_of_find hf
 clear hf
 induction l with
 | nil=>cases hm
 | cons p r ih =>
  obtain ⟨m,y⟩:=p
  simp only [noEnv,Bool.and_eq_true,Bool.not_eq_true'] at h
  rcases List.mem_cons.1 hm with hm|hm
  ·cases hm;exact h.1
  ·exact ih h.2 hm
theorem noHeap_find {n s:Nat} {x:Obj'}:∀{l:Heap},noHeap n l=true→find s l=some x→x.has n=false:=by
 intro l h hf
 have hm:=mem_of_find hf
 clear hf
 induction l with
 | nil=>cases hm
 | cons p r ih =>
  obtain ⟨m,y⟩:=p
  simp only [noHeap,Bool.and_eq_true,Bool.not_eq_true'] at h
  rcases List.mem_cons.1 hm with hm|hm
  ·cases hm;exact h.1
  ·exact ih h.2 hm
theorem ArrAt.mono {S S':Nat→Prop} {w w':World} {b base cap k:Nat} {xs:List V} {t:Option TypeId} (h:ArrAt S w b base cap k xs t) (hk:Keep S w w') (hs:∀b,S b→S' b) (hb:w'.heap[b]?=w.heap[b]?) :
  ArrAt S' w' b base cap k xs t:=by
 obtain ⟨hp,⟨cur,e,fz,h1,h2,h3,h4⟩,h5,h6,h7⟩:=h
 exact ⟨hp,⟨cur,e,fz,hb.trans h1,h2,h3,fun i j x c hx hc=>(h4 i j x c hx hc).mono hk hs⟩,h5,h6,h7⟩
theorem Ents.mono {S S':Nat→Prop} {w w':World} {kd:KD} {ents:List MapEntry} {es:List (V×V)} (h:Ents S w kd ents es) (hk:Keep S w w') (hs:∀b,S b→S' b):Ents S' w' kd ents es :=
 ⟨h.len,h.key,fun i ent kv hi hj=>⟨(h.rd i ent kv hi hj).1.mono hk hs,(h.rd i ent kv hi hj).2.mono hk hs⟩⟩
theorem IterAt.mono {S S':Nat→Prop} {w w':World} {b:Nat} {rem:List (V×V)} {cur:Option (V×V)} (h:IterAt S w b rem cur) (hk:Keep S w w') (hs:∀b,S b→S' b) (hb:w'.heap[b]?=w.heap[b]?):IterAt S' w' b rem cur:=by
 rcases h with ⟨x,y,z,h1,h2⟩|⟨m,clock,seen,ents,h1,h2,h3,h4,h5,h6,h7,h8⟩
 ·exact .inl ⟨x,y,z,hb.trans h1,h2⟩
 ·refine .inr ⟨m,clock,seen,ents,hb.trans h1,hs _ h2,(hk _ h2).trans h3,h4,h5,h6,fun i ent kv hi hj=>⟨(h7 i ent kv hi hj).1.mono hk hs,(h7 i ent kv hi hj).2.mono hk hs⟩,fun kv hc=>?_⟩
  obtain ⟨ent,k1,k2,k3,k4⟩:=h8 kv hc
  exact ⟨ent,k1,k2,k3.mono hk hs,k4.mono hk hs⟩
theorem OR.mono {g g':Gh} {w w':World} {id:Nat} {o:Obj'} (h:OR g w id o) (hk:Keep g.S w w') (hs:∀b,g.S b→g'.S b)
  (hid:g.agree g' id) (hb:¬g.nil id→w'.heap[g.ρ id]?=w.heap[g.ρ id]?) (hr:∀n,o.has n=true→g.agree g' n) (hz:w.heap.size≤w'.heap.size):OR g' w' id o:=by
 obtain ⟨e1,e2,e3,e4⟩:=hid
 cases o with
 | cells cs t =>
  obtain ⟨hn,cur,e,fz,h1,h2,h3,h4⟩:=h
  refine ⟨fun h=>hn (e4.1 h),cur,e,fz,by rw [e1,hb hn];exact h1,h2,h3,fun i c hc=>(h4 i c hc).mono hk hs fun n hn=>hr n ?_⟩
  by_cases hx:Obj'.has n (.cells cs t)=true
  ·exact hx
  ·simp only [Obj'.has,Bool.not_eq_true] at hx
   have:=V.hasL_mem (List.mem_of_getElem? hc) hx
   rw [this] at hn;cases hn
 | arr k xs t =>
  rcases h with ⟨hn,hx⟩|⟨hn,ha⟩
  ·exact .inl ⟨e4.2 hn,hx⟩
  ·refine .inr ⟨fun h=>hn (e4.1 h),?_⟩
   rw [e1,e2,e3];exact ha.mono hk hs (hb hn)
 | map kd es =>
  obtain ⟨hn,ents,clock,h1,h2,h3⟩:=h
  exact ⟨fun h=>hn (e4.1 h),ents,clock,by rw [e1,hb hn];exact h1,h2.mono hk hs,h3⟩
 | iter rem cur =>
  obtain ⟨hn,h1⟩:=h
  refine ⟨fun h=>hn (e4.1 h),?_⟩
  rw [e1];exact h1.mono hk hs (hb hn)
 | mark =>
  obtain ⟨h1,h2⟩:=h
  exact ⟨e4.2 h1,fun b hb=>hs b (h2 b (by rw [←e2];exact hb))⟩
 | nmap z k kd es =>
  obtain ⟨hn,ents,clock,h1,h2,h3,h4,h5,h6⟩:=h
  have ez:=(hr z (by simp [Obj'.has])).2.1
  refine ⟨fun h=>hn (e4.1 h),ents,clock,by rw [e1,hb hn];exact h1,h2.mono hk hs,h3,h4,fun i ent kv hi hj=>?_,fun b hb=>hs b (h6 b (by rw [←ez];exact hb))⟩
  obtain ⟨xs,k1,k2⟩:=h5 i ent kv hi hj
  exact ⟨xs,k1,by rw [ez];exact k2.mono hk hs⟩
theorem OR.block {g:Gh} {w:World} {id:Nat} {o:Obj'} (h:OR g w id o) (hn:¬g.nil id):g.ρ id<w.heap.size:=by
 have hlt:∀{o:Obj},w.heap[g.ρ id]?=some o→g.ρ id<w.heap.size:=fun h=>(Array.getElem?_eq_some_iff.1 h).1
 cases o with
 | cells cs t=>obtain ⟨_,cur,e,fz,h1,_⟩:=h;exact hlt h1
 | arr k xs t =>
  rcases h with ⟨h,_⟩|⟨_,_,⟨cur,e,fz,h1,_⟩,_⟩
  ·exact absurd h hn
  ·exact hlt h1
 | map kd es=>obtain ⟨_,ents,clock,h1,_⟩:=h;exact hlt h1
 | iter rem cur =>
  obtain ⟨_,h1⟩:=h
  rcases h1 with ⟨x,y,z,h1,_⟩|⟨m,clock,seen,ents,h1,_⟩<;>exact hlt h1
 | mark=>exact absurd h.1 hn
 | nmap z k kd es=>obtain ⟨_,ents,clock,h1,_⟩:=h;exact hlt h1
structure StepOK (g:Gh) (H:Heap) (w:World) (e:Eff) (g':Gh) (w':World):Prop where
 os:w'.os=w.os
 tape:w'.tape=w.tape
 output:w'.output=w.output
 size:w.heap.size≤w'.heap.size
 keep:∀b,b<w.heap.size→(∀id o,id∈e.ids→find id H=some o→¬g.nil id→g.ρ id≠b)→w'.heap[b]?=w.heap[b]?
 sup:∀b,g.S b→g'.S b
 sub:∀b,g'.S b→g.S b∨w.heap.size≤b∨∃id o,id∈e.ids∧find id H=some o∧¬g.nil id∧g.ρ id=b
 slt:∀b,g'.S b→b<w'.heap.size
 agree:∀id,(∀o,(id,o)∉e.new)→g.agree g' id
 obj:∀id o,(id,o)∈e.new→OR g' w' id o
 blk:∀id o,(id,o)∈e.new→¬g'.nil id→w.heap.size≤g'.ρ id∨∃id0 o0,id0∈e.ids∧find id0 H=some o0∧¬g.nil id0∧g.ρ id0=g'.ρ id
 inj:∀i j o o',(i,o)∈e.new→(j,o')∈e.new→¬g'.nil i→¬g'.nil j→g'.ρ i=g'.ρ j→i=j
 sep:∀id o,(id,o)∈e.new→¬g'.nil id→¬g'.S (g'.ρ id)
def Fresh (H0:Heap) (g g':Gh) (σ:St) (e:Eff):Prop :=
 ∀id o,(id,o)∈e.new→g.agree g' id∨(find id H0=none∧(∀s x,find s σ.env=some x→x.has id=false)∧∀n o',find n σ.heap=some o'→n∉e.ids→o'.has id=false)
theorem HRel.step {P:Program} {H0:Heap} {g g':Gh} {σ:St} {w w':World} {e:Eff} (h:HRel P g w σ.heap) (hs:StepOK g σ.heap w e g' w') (hf:Fresh H0 g g' σ e) :
  Keep g.S w w'∧HRel P g' w' (e.heap σ.heap)∧(∀v x,VR g w v x→(∃s,find s σ.env=some x)→VR g' w' v x):=by
 have hkeep:Keep g.S w w':=fun b hb=>hs.keep b (h.lt b hb) fun id o _ ho hn he=>h.sep id o ho hn (he▸hb)
 have hag:∀id,(∀o,(id,o)∉e.new)∨g.agree g' id∨((∀s x,find s σ.env=some x→x.has id=false)∧∀n o',find n σ.heap=some o'→n∉e.ids→o'.has id=false):=by
  intro id
  by_cases hn:∃o,(id,o)∈e.new
  ·obtain ⟨o,ho⟩:=hn
   rcases hf id o ho with h1|h1
   ·exact .inr (.inl h1)
   ·exact .inr (.inr h1.2)
  ·exact .inl fun o ho=>hn ⟨o,ho⟩
 refine ⟨hkeep,⟨?_,?_,?_,hs.slt,fun w2 hw2=>h.tabs w2 fun b hb=>(hw2 b (hs.sup b hb)).trans (hkeep b hb)⟩,?_⟩
 ·intro id o ho
  rcases Eff.find_cases ho with hn|⟨hid,ho⟩
  ·exact hs.obj id o hn
  ·have hnew:∀o',(id,o')∉e.new:=fun o' ho'=>hid (by
    simp only [Eff.ids,List.mem_append,List.mem_map]
    exact .inr ⟨_,ho',rfl⟩)
   refine (h.obj id o ho).mono hkeep hs.sup (hs.agree id hnew) (fun hn=>hs.keep _ ((h.obj id o ho).block hn) fun id0 o0 hid0 ho0 hn0 he=>?_) (fun n hn=>?_) hs.size
   ·exact hid (h.inj id0 id o0 o ho0 ho hn0 hn he▸hid0)
   ·rcases hag n with h1|h1|h1
    ·exact hs.agree n h1
    ·exact h1
    ·rw [h1.2 id o ho hid] at hn;cases hn
 ·intro i j o o' hi hj hni hnj he
  rcases Eff.find_cases hi with hi|⟨hii,hi⟩<;>rcases Eff.find_cases hj with hj|⟨hjj,hj⟩
  ·exact hs.inj i j o o' hi hj hni hnj he
  ·have hnew:∀o',(j,o')∉e.new:=fun o' ho'=>hjj (by simp only [Eff.ids,List.mem_append,List.mem_map];exact .inr ⟨_,ho',rfl⟩)
   obtain ⟨a1,_,_,a4⟩:=hs.agree j hnew
   have hnj':¬g.nil j:=fun h=>hnj (a4.2 h)
   have hb:=(h.obj j o' hj).block hnj'
   rcases hs.blk i o hi hni with h1|⟨id0,o0,hid0,ho0,hn0,he0⟩
   ·rw [he,a1] at h1;omega
   ·exact absurd (h.inj id0 j o0 o' ho0 hj hn0 hnj' (by rw [he0,he,a1])) (fun e1=>hjj (e1▸hid0))
  ·have hnew:∀o',(i,o')∉e.new:=fun o' ho'=>hii (by simp only [Eff.ids,List.mem_append,List.mem_map];exact .inr ⟨_,ho',rfl⟩)
   obtain ⟨a1,_,_,a4⟩:=hs.agree i hnew
   have hni':¬g.nil i:=fun h=>hni (a4.2 h)
   have hb:=(h.obj i o hi).block hni'
   rcases hs.blk j o' hj hnj with h1|⟨id0,o0,hid0,ho0,hn0,he0⟩
   ·rw [←he,a1] at h1;omega
   ·exact absurd (h.inj id0 i o0 o ho0 hi hn0 hni' (by rw [he0,←he,a1])) (fun e1=>hii (e1▸hid0))
  ·have hnew:∀k,k∉e.ids→∀o',(k,o')∉e.new:=fun k hk o' ho'=>hk (by simp only [Eff.ids,List.mem_append,List.mem_map];exact .inr ⟨_,ho',rfl⟩)
   obtain ⟨a1,_,_,a4⟩:=hs.agree i (hnew i hii)
   obtain ⟨b1,_,_,b4⟩:=hs.agree j (hnew j hjj)
   exact h.inj i j o o' hi hj (fun h=>hni (a4.2 h)) (fun h=>hnj (b4.2 h)) (by rw [←a1,←b1];exact he)
 ·intro id o ho hn hS
  rcases Eff.find_cases ho with hnew|⟨hid,ho⟩
  ·exact hs.sep id o hnew hn hS
  ·have hnew:∀o',(id,o')∉e.new:=fun o' ho'=>hid (by simp only [Eff.ids,List.mem_append,List.mem_map];exact .inr ⟨_,ho',rfl⟩)
   obtain ⟨a1,_,_,a4⟩:=hs.agree id hnew
   have hn':¬g.nil id:=fun h=>hn (a4.2 h)
   rw [a1] at hS
   rcases hs.sub _ hS with h1|h1|⟨id0,o0,hid0,ho0,hn0,he0⟩
   ·exact h.sep id o ho hn' h1
   ·have:=(h.obj id o ho).block hn';omega
   ·exact hid (h.inj id0 id o0 o ho0 ho hn0 hn' he0▸hid0)
 ·intro v x hv ⟨s,hx⟩
  refine hv.mono hkeep hs.sup fun id hid=>?_
  rcases hag id with h1|h1|h1
  ·exact hs.agree id h1
  ·exact h1
  ·rw [h1.1 s x hx] at hid;cases hid
theorem Dfr.step {c:Ctx} {g g':Gh} {σ:St} {w w':World} {e:Eff} {ds:List Deferred} (h:Dfr c w ds) (hf:Frm c g w σ.heap) (hk:Keep g.S w w') (hs:StepOK g σ.heap w e g' w'):Dfr c w' ds :=
 ⟨h.1,fun b o hb=>⟨(h.2.1 b o hb).1,(hs.keep b (Array.getElem?_eq_some_iff.1 (h.2.1 b o hb).2).1 fun id o' _ ho hn e=>(hf.own id o' ho hn).2 o (e▸hb)).trans (h.2.1 b o hb).2⟩,
  fun b hb=>(hk b (hf.sup b (.inr hb))).trans (h.2.2 b hb)⟩
theorem Frm.step {c:Ctx} {g g':Gh} {σ:St} {w w':World} {e:Eff} {ds:List Deferred} (hd:Dfr c w ds) (hf:Frm c g w σ.heap) (hs:StepOK g σ.heap w e g' w') (hfr:Fresh c.H0 g g' σ e):Frm c g' w' (e.heap σ.heap):=by
 have new:∀b,w.heap.size≤b→c.free b:=fun b hb o hm=>by
  have:=(Array.getElem?_eq_some_iff.1 (hd.2.1 b o hm).2).1
  omega
 refine ⟨hs.os.trans hf.os,hs.tape.trans hf.tape,hs.output.trans hf.output,Nat.le_trans hf.size hs.size,?_,?_,fun b hb=>hs.sup b (hf.sup b hb),?_,?_⟩
 ·intro b hb hM
  refine (hs.keep b (Nat.lt_of_lt_of_le hb hf.size) fun id o _ ho hn he=>?_).trans (hf.old b hb hM)
  rcases (hf.own id o ho hn).1 with h1|h1
  ·omega
  ·exact hM (he▸h1)
 ·intro id o ho hn
  rcases Eff.find_cases ho with hnew|⟨hid,ho⟩
  ·rcases hs.blk id o hnew hn with h1|⟨id0,o0,hid0,ho0,hn0,he0⟩
   ·exact ⟨.inl (Nat.le_trans hf.size h1),new _ h1⟩
   ·rw [←he0];exact hf.own id0 o0 ho0 hn0
  ·have hnew:∀o',(id,o')∉e.new:=fun o' ho'=>hid (by simp only [Eff.ids,List.mem_append,List.mem_map];exact .inr ⟨_,ho',rfl⟩)
   obtain ⟨a1,_,_,a4⟩:=hs.agree id hnew
   rw [a1];exact hf.own id o ho fun h=>hn (a4.2 h)
 ·intro b hb
  rcases hs.sub b hb with h1|h1|⟨id0,o0,hid0,ho0,hn0,he0⟩
  ·exact hf.sub b h1
  ·exact ⟨.inr (.inl (Nat.le_trans hf.size h1)),new _ h1⟩
  ·rw [←he0];exact ⟨.inr (hf.own id0 o0 ho0 hn0).1,(hf.own id0 o0 ho0 hn0).2⟩
 ·intro id o1 hid
  refine (hf.par id o1 hid).trans ?_
  by_cases hn:∃o,(id,o)∈e.new
  ·obtain ⟨o,ho⟩:=hn
   rcases hfr id o ho with h1|h1
   ·exact h1
   ·rw [hid] at h1;cases h1.1
  ·exact hs.agree id fun o ho=>hn ⟨o,ho⟩
theorem Rel.step {P:Program} {c:Ctx} {g g':Gh} {σ:St} {a:Act} {w w':World} {d:Option Nat} {v:Value} {e:Eff} (h:Rel P c g σ a w) (hd:∀n,d=some n→n<c.nt)
  (hs:StepOK g σ.heap w e g' w') (hf:Fresh c.H0 g g' σ e) (hv:VR g' w' v e.val):Rel P c g' (σ.app d e) (a.put d v) w':=by
 obtain ⟨hk,hH,hV⟩:=h.hp.step hs hf
 refine ⟨?_,?_,?_,hH,h.fr.step h.dfr hs hf⟩
 ·cases d<;>simp [Act.put,h.size]
 ·have:=h.dfr.step h.fr hk hs
  cases d<;>exact this
 ·intro s x hx
  cases d with
  | none =>
   obtain ⟨h1,h2⟩:=h.env s x hx
   exact ⟨h1,hV _ _ h2 ⟨s,hx⟩⟩
  | some d =>
   simp only [St.app,setE,find_put] at hx
   have hdn:=hd d rfl
   by_cases e1:s=d
   ·subst e1
    simp at hx;subst hx
    refine ⟨hdn,?_⟩
    have hlt:s<a.tmps.size:=by rw [h.size];exact hdn
    simpa [Act.put,Array.getD_eq_getD_getElem?,hlt] using hv
   ·simp only [e1,if_false] at hx
    obtain ⟨h1,h2⟩:=h.env s x hx
    have hne:¬d=s:=fun e=>e1 e.symm
    refine ⟨h1,?_⟩
    have:=hV _ _ h2 ⟨s,hx⟩
    simpa [Act.put,Array.getD_eq_getD_getElem?,Array.getElem?_setIfInBounds_ne hne] using this
theorem StepOK.val {g:Gh} {H:Heap} {w w':World} (x:V) (hlt:∀b,g.S b→b<w.heap.size) (h1:w'.os=w.os) (h2:w'.tape=w.tape) (h3:w'.output=w.output) (h4:w'.heap=w.heap) :
  StepOK g H w ⟨x,[],[]⟩ g w' :=
 ⟨h1,h2,h3,by rw [h4];exact Nat.le_refl _,fun b _ _=>by rw [h4],fun _ h=>h,fun b hb=>.inl hb,fun b hb=>by rw [h4];exact hlt b hb,
  fun id _=>Gh.agree.refl _ _,fun _ _ h=>by simp at h,fun _ _ h=>by simp at h,fun _ _ _ _ h=>by simp at h,fun _ _ h=>by simp at h⟩
theorem Fresh.val {H0:Heap} {g:Gh} {σ:St} (x:V):Fresh H0 g g σ ⟨x,[],[]⟩:=fun _ _ h=>by simp at h
theorem Rel.put {P:Program} {c:Ctx} {g:Gh} {σ:St} {a:Act} {w:World} {d:Option Nat} {v:Value} {x:V} (h:Rel P c g σ a w) (hd:∀n,d=some n→n<c.nt) (hv:VR g w v x) :
  Rel P c g (σ.app d ⟨x,[],[]⟩) (a.put d v) w :=
 h.step hd (StepOK.val x h.hp.lt rfl rfl rfl rfl) (Fresh.val x) hv
def Gh.set (g:Gh) (n b base cap:Nat):Gh :=
 { g with ρ:=fun i=>if i=n then b else g.ρ i,base:=fun i=>if i=n then base else g.base i,cap:=fun i=>if i=n then cap else g.cap i,nil:=fun i=>i≠n∧g.nil i }
theorem Gh.set_agree {g:Gh} {n b base cap i:Nat} (h:i≠n):g.agree (g.set n b base cap) i:=by
 simp [Gh.agree,Gh.set,h]
theorem StepOK.alloc {g:Gh} {H:Heap} {w w':World} (x:V) (n base cap:Nat) (o:Obj') (B:Obj) (hlt:∀b,g.S b→b<w.heap.size) (h1:w'.os=w.os) (h2:w'.tape=w.tape) (h3:w'.output=w.output) (h4:w'.heap=w.heap.push B)
  (ho:OR (g.set n w.heap.size base cap) w' n o):StepOK g H w ⟨x,[],[(n,o)]⟩ (g.set n w.heap.size base cap) w':=by
 have hsz:w'.heap.size=w.heap.size+1:=by rw [h4];simp
 refine ⟨h1,h2,h3,by omega,fun b hb _=>?_,fun _ h=>h,fun b hb=>.inl hb,fun b hb=>by have:=hlt b hb;omega,fun id hid=>Gh.set_agree fun e=>hid o (by simp [e]),?_,?_,?_,?_⟩
 ·rw [h4,Array.getElem?_push,if_neg (by omega)]
 ·intro id o' h;simp at h;obtain ⟨rfl,rfl⟩:=h;exact ho
 ·intro id o' h _;simp at h;obtain ⟨rfl,rfl⟩:=h;exact .inl (by simp [Gh.set])
 ·intro i j o1 o2 hi hj;simp at hi hj;intro _ _ _;rw [hi.1,hj.1]
 ·intro id o' h _ hS
  simp at h;obtain ⟨rfl,rfl⟩:=h
  have:(g.set id w.heap.size base cap).ρ id=w.heap.size:=by simp [Gh.set]
  rw [this] at hS
  have:=hlt _ hS
  omega
theorem Fresh.one {H0:Heap} {g g':Gh} {σ:St} {x:V} {n:Nat} {o:Obj'} {dr:List Nat} (hn:find n H0=none) (he:noEnv n σ.env=true) (hh:∀m o',find m σ.heap=some o'→m∉(Eff.mk x dr [(n,o)]).ids→o'.has n=false):Fresh H0 g g' σ ⟨x,dr,[(n,o)]⟩:=by
 intro id o' h
 simp at h;obtain ⟨rfl,rfl⟩:=h
 exact .inr ⟨hn,fun s x hx=>noEnv_find he hx,hh⟩
theorem StepOK.upd {P:Program} {g:Gh} {H:Heap} {w w':World} (x:V) (n:Nat) (o o':Obj') (hH:HRel P g w H) (hf:find n H=some o) (hn:¬g.nil n) (h1:w'.os=w.os) (h2:w'.tape=w.tape) (h3:w'.output=w.output) (h4:w'.heap.size=w.heap.size)
  (h5:∀b,b≠g.ρ n→w'.heap[b]?=w.heap[b]?) (ho:OR g w' n o'):StepOK g H w ⟨x,[],[(n,o')]⟩ g w':=by
 refine ⟨h1,h2,h3,by omega,fun b hb hb'=>h5 b fun e=>hb' n o (by simp [Eff.ids]) hf hn e.symm,fun _ h=>h,fun b hb=>.inl hb,fun b hb=>by have:=hH.lt b hb;omega,fun id _=>Gh.agree.refl _ _,?_,?_,?_,?_⟩
 ·intro id o1 h;simp at h;obtain ⟨rfl,rfl⟩:=h;exact ho
 ·intro id o1 h _;simp at h;obtain ⟨rfl,rfl⟩:=h;exact .inr ⟨id,o,by simp [Eff.ids],hf,hn,rfl⟩
 ·intro i j o1 o2 hi hj;simp at hi hj;intro _ _ _;rw [hi.1,hj.1]
 ·intro id o1 h hn';simp at h;obtain ⟨rfl,rfl⟩:=h;exact hH.sep _ o hf hn'
theorem Fresh.upd {H0:Heap} {g:Gh} {σ:St} (e:Eff):Fresh H0 g g σ e:=fun _ _ _=>.inl (Gh.agree.refl _ _)
end Go.Ab
