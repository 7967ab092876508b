/- The abstract layer, part 13a: maps. -/
import Derived.Test.YtnaeedamiaoipaaGreatDoorAbSndH
import Derived.MapKept
import Derived.Lib.SliceRun
import Derived.Laws.IdiomRangeMap
set_option linter.all false
namespace Go.Ab
open Go.RowKit
def KD.desc:KD→TypeDesc
 | .int k=>.int k
 | .str=>.string
 | .bool=>.bool
theorem KD.is_inv {kd:KD} {k:V} (h:kd.is k=true):(∃i n,kd=.int i∧k=.int i n)∨(∃s,kd=.str∧k=.str s)∨∃b,kd=.bool∧k=.bool b:=by
 cases kd with
 | int i=>cases i<;>cases k<;>(try (simp [KD.is] at h;done))<;>rename_i j n<;>cases j<;>(try (simp [KD.is] at h;done))<;>exact .inl ⟨_,_,rfl,rfl⟩
 | str=>cases k<;>simp [KD.is] at h;exact .inr (.inl ⟨_,rfl,rfl⟩)
 | bool=>cases k<;>simp [KD.is] at h;exact .inr (.inr ⟨_,rfl,rfl⟩)
theorem KD.same {a b:KD} {k:V} (h:a.is k=true) (h':b.is k=true):a=b:=by
 rcases KD.is_inv h with ⟨i,n,rfl,rfl⟩|⟨s,rfl,rfl⟩|⟨x,rfl,rfl⟩<;>rcases KD.is_inv h' with ⟨j,m,rfl,e⟩|⟨t,rfl,e⟩|⟨y,rfl,e⟩<;>cases e<;>rfl
theorem KD.rd {S:Nat→Prop} {w:World} {kd:KD} {k:V} {v:Value} (h:kd.is k=true) (hr:Rd S w v k):MapKept.IsKey kd.desc v:=by
 rcases KD.is_inv h with ⟨i,n,rfl,rfl⟩|⟨s,rfl,rfl⟩|⟨x,rfl,rfl⟩<;>cases hr<;>simp [KD.desc,MapKept.IsKey]
theorem KD.sc {kd:KD} {k:V} (h:kd.is k=true):k.sc=true:=by
 rcases KD.is_inv h with ⟨i,n,rfl,rfl⟩|⟨s,rfl,rfl⟩|⟨x,rfl,rfl⟩<;>rfl
theorem KD.eq {S S':Nat→Prop} {w w':World} {kd:KD} {k k':V} {v v':Value} (h:kd.is k=true) (h':kd.is k'=true) (hr:Rd S w v k) (hr':Rd S' w' v' k'):v'=v↔keq k k'=true:=by
 rcases KD.is_inv h with ⟨i,n,rfl,rfl⟩|⟨s,rfl,rfl⟩|⟨x,rfl,rfl⟩<;>rcases KD.is_inv h' with ⟨j,m,e1,rfl⟩|⟨t,e1,rfl⟩|⟨y,e1,rfl⟩<;>cases e1<;>cases hr<;>cases hr'
 ·simp only [keq,decide_eq_true_eq,Value.int.injEq]
  exact ⟨fun h=>h.2.symm,fun h=>⟨trivial,h.symm⟩⟩
 ·rename_i a _ b _
  simp only [keq,decide_eq_true_eq,Value.string.injEq]
  constructor
  ·rintro rfl;rfl
  ·intro e
   have e1:a.data=b.data:=Array.toList_inj.1 e
   obtain ⟨a⟩:=a;obtain ⟨b⟩:=b
   simp only at e1;subst e1;rfl
 ·simp only [keq,beq_iff_eq,Value.bool.injEq]
  exact ⟨fun h=>h.symm,fun h=>h.symm⟩
section
variable {S:Nat→Prop} {w:World} {kd:KD} {k:V} {v:Value}
theorem Ents.cons {S:Nat→Prop} {w:World} {kd:KD} {e:MapEntry} {l:List MapEntry} {kv:V×V} {es:List (V×V)} (h:Ents S w kd (e::l) (kv::es)):Ents S w kd l es :=
 ⟨by simpa using h.len,fun x hx=>h.key x (List.mem_cons_of_mem _ hx),fun i ent kv hi hj=>h.rd (i+1) ent kv (by simpa using hi) (by simpa using hj)⟩
theorem find_ents (hk:kd.is k=true) (hv:Rd S w v k):∀{l:List MapEntry} {es:List (V×V)} (i:Nat),Ents S w kd l es →
  (Instr.findNow kd.desc v l i=some none∧mget k es=none∧(∀u,mput k u es=es++[(k,u)])∧mdel k es=es∧∀x∈l,x.key≠v) ∨
  ∃j e kv,Instr.findNow kd.desc v l i=some (some (i+j,e.val))∧l[j]?=some e∧es[j]?=some kv∧e.key=v∧mget k es=some kv.2∧(∀u,mput k u es=es.set j (kv.1,u))∧mdel k es=es.eraseIdx j
 | [],[],i,_=>.inl ⟨rfl,rfl,fun _=>rfl,rfl,fun x hx=>by cases hx⟩
 | [],_::_,_,h=>by have:=h.len;simp at this
 | _::_,[],_,h=>by have:=h.len;simp at this
 | e::l,(a,b)::es,i,h=>by
  have hka:kd.is a=true:=h.key (a,b) (by simp)
  obtain ⟨ha,hb⟩:=h.rd 0 e (a,b) rfl rfl
  obtain ⟨r,hr,hiff⟩:=MapKept.sameNow_of_keys (KD.rd hk hv) (KD.rd hka ha)
  have heq:=KD.eq hk hka hv ha
  cases hq:keq k a with
  | true =>
   have e1:e.key=v:=heq.2 hq
   have:r=true:=hiff.2 e1.symm
   subst this
   exact .inr ⟨0,e,(a,b),by simp [Instr.findNow,hr],rfl,rfl,e1,by simp [mget,hq],fun u=>by simp [mput,hq],by simp [mdel,hq]⟩
  | false =>
   have hne:e.key≠v:=fun e1=>by rw [heq.1 e1] at hq;cases hq
   have:r=false:=by
    cases r with
    | false=>rfl
    | true=>exact absurd (hiff.1 rfl).symm hne
   subst this
   rcases find_ents hk hv (i+1) h.cons with ⟨h1,h2,h3,h4,h5⟩|⟨j,e',kv,h1,h2,h3,h4,h5,h6,h7⟩
   ·refine .inl ⟨by simp [Instr.findNow,hr,h1],by simp [mget,hq,h2],fun u=>by simp [mput,hq,h3],by simp [mdel,hq,h4],fun x hx=>?_⟩
    rcases List.mem_cons.1 hx with rfl|hx
    ·exact hne
    ·exact h5 x hx
   ·exact .inr ⟨j+1,e',kv,by simp [Instr.findNow,hr,h1];omega,by simpa using h2,by simpa using h3,h4,by simp [mget,hq,h5],fun u=>by simp [mput,hq,h6],by simp [mdel,hq,h7]⟩
theorem Ents.push {l:List MapEntry} {es:List (V×V)} (h:Ents S w kd l es) (hk:kd.is k=true) (hv:Rd S w v k) {u:V} {x:Value} (hu:Rd S w x u) (clock:Nat) :
  Ents S w kd (l++[{ key:=v,val:=x,born:=clock }]) (es++[(k,u)]):=by
 refine ⟨by simp [h.len],fun kv hm=>?_,fun i ent kv hi hj=>?_⟩
 ·rcases List.mem_append.1 hm with hm|hm
  ·exact h.key kv hm
  ·simp at hm;subst hm;exact hk
 ·by_cases hlt:i<l.length
  ·rw [List.getElem?_append_left hlt] at hi
   rw [List.getElem?_append_left (by rw [←h.len];exact hlt)] at hj
   exact h.rd i ent kv hi hj
  ·rw [List.getElem?_append_right (by omega)] at hi
   rw [List.getElem?_append_right (by have:=h.len;omega),←h.len] at hj
   cases hd:i - l.length with
   | zero=>rw [hd] at hi hj;simp at hi hj;subst hi hj;exact ⟨hv,hu⟩
   | succ m=>rw [hd] at hi;simp at hi
theorem Ents.modify {l l':List MapEntry} {es:List (V×V)} (h:Ents S w kd l es) {j:Nat} {e:MapEntry} {kv:V×V} (he:l[j]?=some e) (hj:es[j]?=some kv) {u:V} {x:Value} (hu:Rd S w x u)
  (hl:l'.length=l.length) (h1:∀e',l'[j]?=some e'→e'.key=e.key∧e'.val=x) (h2:∀i,i≠j→l'[i]?=l[i]?):Ents S w kd l' (es.set j (kv.1,u)):=by
 refine ⟨by simp [hl,h.len],fun q hm=>?_,fun i ent q hi hq=>?_⟩
 ·rcases List.mem_or_eq_of_mem_set hm with hm|hm
  ·exact h.key q hm
  ·subst hm;exact h.key kv (List.mem_of_getElem? hj)
 ·by_cases hij:i=j
  ·subst hij
   have hlt:i<es.length:=(List.getElem?_eq_some_iff.1 hj).1
   rw [List.getElem?_set_self hlt] at hq
   cases hq
   obtain ⟨e1,e2⟩:=h1 ent hi
   exact ⟨by rw [e1];exact (h.rd i e kv he hj).1,by rw [e2];exact hu⟩
  ·rw [h2 i hij] at hi
   rw [List.getElem?_set_ne (fun e=>hij e.symm)] at hq
   exact h.rd i ent q hi hq
theorem Ents.erase {l:List MapEntry} {es:List (V×V)} (h:Ents S w kd l es) (j:Nat):Ents S w kd (l.eraseIdx j) (es.eraseIdx j):=by
 refine ⟨by simp [List.length_eraseIdx,h.len],fun kv hm=>h.key kv (List.mem_of_mem_eraseIdx hm),fun i ent kv hi hj=>?_⟩
 rw [List.getElem?_eraseIdx] at hi hj
 split at hi
 ·rename_i hlt;rw [if_pos hlt] at hj;exact h.rd i ent kv hi hj
 ·rename_i hlt;rw [if_neg hlt] at hj;exact h.rd (i+1) ent kv hi hj
end
section
variable {P:Program} {w:World}
theorem run_next {r m clock:Nat} {ty:TypeId} {seen:Array Nat} {es:Array MapEntry} (hr:w.heap[r]?=some (.mapIter (some m) clock seen clock)) (hb:w.heap[m]?=some (.map es clock)) (hold:∀x∈es.toList,x.born<clock) :
  ((es.toList.filter fun e=>!seen.contains e.born)=[]∧(Instr.next (.pointer (some ⟨r,0,none⟩)) false ty).run P w=.ok (.tuple #[.bool false]) w) ∨
  ∃(i:Nat) (e:MapEntry) (w1:World),(es.toList.filter fun e=>!seen.contains e.born)[i]?=some e∧w1.heap=w.heap∧w1.os=w.os∧w1.output=w.output∧w1.tape=w.tape ∧
   (Instr.next (.pointer (some ⟨r,0,none⟩)) false ty).run P w=.ok (.tuple #[.bool true,e.key,e.val]) { w1 with heap:=w1.heap.setIfInBounds r (.mapIter (some m) clock (seen.push e.born) clock) }:=by
 simp only [Instr.next,getObj,Sem.run_bind,Sem.run,hr,hb,Result.andThen,next_test_false seen es clock clock hold (Nat.le_refl _),Bool.false_eq_true,if_false]
 have hlist:(es.toList.filter fun e=>!seen.contains e.born)=(es.filter fun e=>!seen.contains e.born).toList:=by simp
 rw [hlist]
 have hmem:∀x∈(Array.filter (fun e=>!seen.contains e.born) es).toList,x.born<clock:=fun x hx=>hold x (by simp at hx ⊢;exact hx.1)
 generalize Array.filter (fun e=>!seen.contains e.born) es=L at hmem ⊢
 have e1:L.filter (fun x=>decide (x.born<clock))=L:=Array.filter_eq_self.2 (fun x hx=>by simpa using hmem x (by simpa using hx))
 have e2:L.filter (fun x=>decide (x.born≥clock))=#[]:=by
  rw [Array.filter_eq_empty_iff]
  intro x hx
  have:=hmem x (by simpa using hx)
  simp
  omega
 simp only [e1,e2,Array.append_empty]
 by_cases h0:L.size=0
 ·left
  have:L=#[]:=Array.eq_empty_of_size_eq_zero h0
  subst this
  refine ⟨rfl,?_⟩
  simp [choose,Sem.run,Question.forced]
 ·right
  have hne:L.isEmpty=false:=by simp [Array.isEmpty,h0]
  simp only [hne,Bool.false_eq_true,if_false,Array.empty_append,Array.size_map]
  have hch:∃(j:Nat) (w1:World),j<L.size∧w1.heap=w.heap∧w1.os=w.os∧w1.output=w.output∧w1.tape=w.tape∧(choose (Question.mapNext L.size)).run P w=.ok j w1:=by
   by_cases hf:L.size≤1
   ·exact ⟨0,w,by omega,rfl,rfl,rfl,rfl,by simp [choose,Sem.run,Question.forced,hf]⟩
   ·exact ⟨_,w.drew,Nat.mod_lt _ (by omega),rfl,rfl,rfl,rfl,by
     simp only [choose,Sem.run,Question.forced,decide_eq_true_eq,hf,if_false,Question.cut]
     rfl⟩
  obtain ⟨j,w1,hj,q1,q2,q3,q4,hrun⟩:=hch
  refine ⟨j,L[j],w1,by simp [hj],q1,q2,q3,q4,?_⟩
  have hset:∀(o':Obj),(setObj r o').run P w1=.ok () { w1 with heap:=w1.heap.setIfInBounds r o' }:=fun o'=>by
   simp only [setObj,Sem.run,q1,hr]
  simp only [hrun,Array.getElem?_map,Array.getElem?_eq_getElem hj,Option.map_some,Sem.run_bind,hset,Result.andThen]
  rfl
theorem run_next_nil {r:Nat} {ty:TypeId} {x:Nat} {y:Array Nat} {z:Nat} (hr:w.heap[r]?=some (.mapIter none x y z)):(Instr.next (.pointer (some ⟨r,0,none⟩)) false ty).run P w=.ok (.tuple #[.bool false]) w:=by
 simp only [Instr.next,getObj,Sem.run_bind,Sem.run,hr,Result.andThen]
 rfl
theorem left_push {seen:Array Nat} {e:MapEntry}:∀{l:List MapEntry} {i:Nat},(l.map (·.born)).Nodup→(l.filter fun e=>!seen.contains e.born)[i]?=some e →
  (l.filter fun x=>!(seen.push e.born).contains x.born)=(l.filter fun e=>!seen.contains e.born).eraseIdx i:=by
 have hc:∀x:MapEntry,(!(seen.push e.born).contains x.born)=(!seen.contains x.born&&!(x.born==e.born)):=fun x=>by
  rw [Bool.eq_iff_iff];simp [Array.mem_push,not_or]
 have hother:∀l:List MapEntry,(∀x∈l,x.born≠e.born)→(l.filter fun x=>!(seen.push e.born).contains x.born)=l.filter fun e=>!seen.contains e.born:=fun l h=>by
  refine List.filter_congr fun x hx=>?_
  rw [hc]
  simp [h x hx]
 intro l
 induction l with
 | nil=>intro i _ h;simp at h
 | cons x l ih =>
  intro i hn h
  simp only [List.map_cons,List.nodup_cons] at hn
  by_cases hx:seen.contains x.born=true
  ·have h1:(!seen.contains x.born)=false:=by rw [hx];rfl
   have h2:(!(seen.push e.born).contains x.born)=false:=by rw [hc,h1];rfl
   simp only [List.filter_cons,h1,Bool.false_eq_true,if_false] at h ⊢
   rw [h2]
   exact ih hn.2 h
  ·have h1:(!seen.contains x.born)=true:=by rw [Bool.not_eq_true] at hx;rw [hx];rfl
   simp only [List.filter_cons,h1,if_true] at h ⊢
   cases i with
   | zero =>
    simp at h;subst h
    have h2:(!(seen.push x.born).contains x.born)=false:=by rw [hc];simp
    simp only [h2,Bool.false_eq_true,if_false,List.eraseIdx_zero,List.tail_cons]
    exact hother l fun y hy hb=>hn.1 (List.mem_map.2 ⟨y,hy,hb⟩)
   | succ i =>
    simp only [List.getElem?_cons_succ] at h
    have hm:e∈l:=(List.mem_filter.1 (List.mem_of_getElem? h)).1
    have hne:x.born≠e.born:=fun hb=>hn.1 (List.mem_map.2 ⟨e,hm,hb.symm⟩)
    have h2:(!(seen.push e.born).contains x.born)=true:=by rw [hc,h1];simp [hne]
    simp only [h2,if_true,List.eraseIdx_cons_succ]
    rw [ih hn.2 h]
end
section
variable {P:Program} {o:Oper} {c:Ctx} {g:Gh} {σ:St} {a:Act} {w:World} {ob:Nat→Option Obj'} {K L:Eff→Prop} {K':Act→World→Prop} {Q':Exit→Act→World→Prop}
theorem Fin.mk'L (hF:Fin o c g σ a w K L K') {eff:Eff} (hk:L eff) {g':Gh} {v:Value} {w':World} (hrun:(execOp a.eval o).run P w=.ok (.value v) w') (h1:StepOK g σ.heap w eff g' w') (h2:Fresh c.H0 g g' σ eff) (h3:VR g' w' v eff.val):o.wp P a w K' Q':=by
 unfold Oper.wp
 rw [hrun]
 exact hF eff (.inr hk) g' v w' h1 h2 h3
theorem isMap_inv {t:TypeId} {kd:Option KD} {z:Option V} (h:isMap P t kd z=true):∃kt et,P.underlying t=some (.map kt et)∧(∀k,kd=some k→P.underlying kt=some k.desc) ∧
  (∀y,z=some y→∃u,(∀w':World,(zeroValue et).run P w'=.ok u w')∧cOK y u=true):=by
 unfold isMap at h
 split at h
 case h_2=>cases h
 rename_i kt et hu
 simp only [Bool.and_eq_true] at h
 obtain ⟨⟨h1,_⟩,h3⟩:=h
 refine ⟨kt,et,hu,fun k hk=>?_,fun y hy=>?_⟩
 ·subst hk
  simp only at h1
  split at h1
  ·rename_i i j e
   have:=kEq_eq h1;subst this;exact e
  ·rename_i e;exact e
  ·rename_i e;exact e
  ·cases h1
 ·subst hy
  simp only at h3
  split at h3
  ·rename_i i hi
   split at h3
   ·rename_i u hz
    exact ⟨u,fun w'=>by simp [zeroValue,typeInfo,hi,hz],h3⟩
   ·cases h3
  ·cases h3
theorem VR.nilm_inv {v:Value} (h:VR g w v .nilm):v=.map none:=by
 cases h with|rd h=>cases h;rfl
theorem ments_inv {v:Value} {x:V} {Km:KD→List (V×V)→Prop} (hR:HRel P g w σ.heap) (hob:∀id o,ob id=some o→find id σ.heap=some o) (vx:VR g w v x) (h:ments x ob Km) :
  ∃b kd es ents clock,v=.map (some b)∧w.heap[b]?=some (.map ents clock)∧Ents g.S w kd ents.toList es∧Km kd es:=by
 unfold ments at h
 split at h
 ·rename_i kd es
  cases vx with
  | rd hr =>
   cases hr with
   | smap b _ ents clock _ hS hg hl hk hb hn hr1 hr2 =>
    exact ⟨b,kd,es,ents,clock,rfl,hg,⟨by simpa using hl,hk,fun i ent kv hi hj=>⟨hr1 i ent kv (by simpa using hi) hj,hr2 i ent kv (by simpa using hi) hj⟩⟩,h⟩
 ·rename_i id
  split at h
  ·rename_i kd es hobj
   obtain ⟨_,ents,clock,h1,h2,_⟩:=hR.obj _ _ (hob _ _ hobj)
   exact ⟨_,kd,es,ents,clock,vx.omap_inv,h1,h2,h⟩
  ·rename_i kd es hobj
   obtain ⟨_,ents,clock,h1,h2,_⟩:=hR.obj _ _ (hob _ _ hobj)
   exact ⟨_,kd,es,ents,clock,vx.omap_inv,h1,h2,h⟩
  ·exact h.elim
 ·exact h.elim
theorem run_checkKey' {t:TypeId} {kd:KD} {k:V} {v:Value} {S:Nat→Prop} {w0:World} (hd:P.underlying t=some kd.desc) (hk:kd.is k=true) (hv:Rd S w0 v k) (e:Bool):(Instr.checkKey e 10000 t v).run P w=.ok () w :=
 MapKept.run_checkKey hd (KD.rd hk hv) e 9999
theorem lkuRes_none (ok:Bool) (z:V) {v:Value} (h:VR g w v z):VR g w (if ok=true then .tuple #[v,.bool false] else v) (lkuRes ok z none):=by
 cases ok with
 | false=>exact h
 | true =>
  refine .tup _ _ rfl fun i c hc=>?_
  match i,hc with
  | 0,hc=>simp at hc;subst hc;exact h
  | 1,hc=>simp at hc;subst hc;exact .rd (.bool _)
  | n+2,hc=>simp at hc
theorem lkuRes_some (ok:Bool) (z x:V) {v:Value} (h:VR g w v x):VR g w (if ok=true then .tuple #[v,.bool true] else v) (lkuRes ok z (some x)):=by
 cases ok with
 | false=>exact h
 | true =>
  refine .tup _ _ rfl fun i c hc=>?_
  match i,hc with
  | 0,hc=>simp at hc;subst hc;exact h
  | 1,hc=>simp at hc;subst hc;exact .rd (.bool _)
  | n+2,hc=>simp at hc
theorem VR.nsmap_inv {m p:Nat} {kd:KD} {es:List (V×V)} {v:Value} (h:VR g w v (.nsmap m p kd es)):∃b ents clock,v=.map (some b)∧w.heap[b]?=some (.map ents clock)∧Ents g.S w kd ents.toList es ∧
  ∀(i:Nat) (ent:MapEntry) (kv:V×V),ents[i]?=some ent→es[i]?=some kv→∃xs,kv.2=.sl xs∧NewRow g.S (g.base m) p w ent.val xs:=by
 cases h with
 | rd h=>cases h
 | nsmap b _ _ _ ents clock _ hr hS hg hn =>
  refine ⟨b,ents,clock,rfl,hg,?_,hn⟩
  cases hr with
  | smap _ _ ents' clock' _ hS' hg' hl hk hb hn' hr1 hr2 =>
   rw [hg] at hg';cases hg'
   exact ⟨by simpa using hl,hk,fun i ent kv h1 h2=>⟨hr1 i ent kv (by simpa using h1) h2,hr2 i ent kv (by simpa using h1) h2⟩⟩
theorem lkn_vr (ok:Bool) {m p:Nat} {o:Option V} {v:Value} {b:Bool} (hb:o.isSome=b) (h:VR g w v (nslV m p o)):VR g w (if ok=true then .tuple #[v,.bool b] else v) (lknRes ok m p o):=by
 cases ok with
 | false=>exact h
 | true =>
  refine .tup _ _ rfl fun i c hc=>?_
  match i,hc with
  | 0,hc=>simp [lknRes] at hc;subst hc;exact h
  | 1,hc=>simp [lknRes] at hc;subst hc;rw [hb];exact .rd (.bool _)
  | n+2,hc=>simp [lknRes] at hc
theorem isNilS_eq {z:V} {u:Value} (h:z.isNilS=true) (hu:cOK z u=true):u=.slice none 0 0:=by
 cases z<;>try (simp [V.isNilS] at h;done)
 ·unfold cOK at hu;split at hu<;>first|rfl|(simp at *;done)
 ·rename_i xs
  cases xs with
  | nil=>unfold cOK at hu;split at hu<;>first|rfl|(simp at *;done)
  | cons x r=>simp [V.isNilS] at h
theorem s_lku {kd:KD} {ok:Bool} {z:V} {xs:List Opd} (hok:mapOK P (.lku kd ok z) xs o.op=true) (hR:Rel P c g σ a w) (hob:∀id o,ob id=some o→find id σ.heap=some o) {d:Nat}
  (h:sMap (.lku kd ok z) d (xs.map (·.ev σ.env)) ob K L) (hF:Fin o c g σ a w K L K'):o.wp P a w K' Q':=by
 obtain ⟨x,k,t,x',k',rfl,ho,hx,hk,hm⟩:∃x k t x' k',xs=[x,k]∧o.op=.lookup t x' k' ok∧x.ok x'=true∧k.ok k'=true∧isMap P t (some kd) (some z)=true:=by
  cases ho:o.op<;>rw [ho] at hok<;>try (simp [mapOK] at hok;done)
  rename_i t x' k' c'
  simp only [mapOK,Bool.and_eq_true,beq_iff_eq] at hok
  obtain ⟨⟨h1,rfl⟩,h3⟩:=hok
  split at h1
  ·rename_i x k
   simp only [Bool.and_eq_true] at h1
   exact ⟨x,k,t,x',k',rfl,rfl,h1.1,h1.2,h3⟩
  ·cases h1
 obtain ⟨kt,et,hu,hkd,hz⟩:=isMap_inv hm
 have hd:=hkd kd rfl
 obtain ⟨u,hzero,hzu⟩:=hz z rfl
 have vx:=Opd.vr hR hx
 have vk:=Opd.vr hR hk
 simp only [sMap,List.map_cons,List.map_nil] at h
 have hex:(execOp a.eval o)=(do pure (Next.value (←Instr.lookup t (a.eval x') (a.eval k') ok)):Sem Next):=by simp [execOp,ho]
 split at h
 ·rename_i hc
  cases hkk:kd.is (k.ev σ.env) with
  | false=>rw [hkk] at h;exact h.elim
  | true =>
   rw [hkk] at h
   have hrk:=vk.sc_rd (KD.sc hkk)
   have e1:a.eval x'=.map none:=by rw [hc] at vx;exact vx.nilm_inv
   have hck:=fun e=>run_checkKey' (w:=w) hd hkk hrk e
   have hfk:(Instr.findKey kt (a.eval k') []).run P w=.ok none w:=MapKept.run_findKey hd rfl
   refine fin_val hR hF (v:=if ok=true then .tuple #[u,.bool false] else u) ?_ (.inl h) (lkuRes_none ok z (.rd (cOK_rd hzu)))
   rw [hex]
   refine exec_v ?_
   rw [e1]
   simp [Instr.lookup,run_underlying hu,hck,hfk,hzero w,Result.andThen]
 ·rename_i m p kd' es hx0
  rw [hx0] at vx
  obtain ⟨b,ents,clock,e1,hb,he,hnr⟩:=vx.nsmap_inv
  cases hkk:kd.is (k.ev σ.env)&&kd'.is (k.ev σ.env)&&z.isNilS with
  | false=>rw [hkk] at h;exact h.elim
  | true =>
   rw [hkk] at h
   simp only [Bool.and_eq_true] at hkk
   obtain ⟨hkk,hzn⟩:=hkk
   have:=KD.same hkk.1 hkk.2;subst this
   have hrk:=vk.sc_rd (KD.sc hkk.1)
   have hck:=fun e=>run_checkKey' (w:=w) hd hkk.1 hrk e
   rcases find_ents hkk.1 hrk 0 he with ⟨h1,h2,_⟩|⟨j,e,kv,h1,h2,h3,h4,h5,_⟩
   ·rw [h2] at h
    have hfk:(Instr.findKey kt (a.eval k') ents.toList).run P w=.ok none w:=MapKept.run_findKey hd h1
    refine fin_val hR hF (v:=if ok=true then .tuple #[u,.bool false] else u) ?_ (.inl h) (lkn_vr ok rfl (.nsl m p [] _ (.inl ⟨isNilS_eq hzn hzu,rfl⟩)))
    rw [hex]
    refine exec_v ?_
    rw [e1]
    simp [Instr.lookup,run_underlying hu,MapKept.run_getObj_map hb,hck,hfk,hzero w,Result.andThen]
   ·rw [h5] at h
    obtain ⟨xs,e2,hnw⟩:=hnr j e kv (by simpa using h2) h3
    have hfk:(Instr.findKey kt (a.eval k') ents.toList).run P w=.ok (some (0+j,e.val)) w:=MapKept.run_findKey hd h1
    refine fin_val hR hF (v:=if ok=true then .tuple #[e.val,.bool true] else e.val) ?_ (.inl h) (lkn_vr ok rfl (by rw [e2];exact .nsl m p xs _ hnw))
    rw [hex]
    refine exec_v ?_
    rw [e1]
    simp [Instr.lookup,run_underlying hu,MapKept.run_getObj_map hb,hck,hfk,Result.andThen]
 ·rename_i x0 hne
  obtain ⟨b,kd',es,ents,clock,e1,hb,he,hK⟩:=ments_inv hR.hp hob vx h
  cases hkk:kd.is (k.ev σ.env)&&kd'.is (k.ev σ.env) with
  | false=>rw [hkk] at hK;exact hK.elim
  | true =>
   rw [hkk] at hK
   simp only [Bool.and_eq_true] at hkk
   have:=KD.same hkk.1 hkk.2;subst this
   have hrk:=vk.sc_rd (KD.sc hkk.1)
   have hck:=fun e=>run_checkKey' (w:=w) hd hkk.1 hrk e
   rcases find_ents hkk.1 hrk 0 he with ⟨h1,h2,_⟩|⟨j,e,kv,h1,h2,h3,h4,h5,_⟩
   ·rw [h2] at hK
    have hfk:(Instr.findKey kt (a.eval k') ents.toList).run P w=.ok none w:=MapKept.run_findKey hd h1
    refine fin_val hR hF (v:=if ok=true then .tuple #[u,.bool false] else u) ?_ (.inl hK) (lkuRes_none ok z (.rd (cOK_rd hzu)))
    rw [hex]
    refine exec_v ?_
    rw [e1]
    simp [Instr.lookup,run_underlying hu,MapKept.run_getObj_map hb,hck,hfk,hzero w,Result.andThen]
   ·rw [h5] at hK
    have hfk:(Instr.findKey kt (a.eval k') ents.toList).run P w=.ok (some (0+j,e.val)) w:=MapKept.run_findKey hd h1
    refine fin_val hR hF (v:=if ok=true then .tuple #[e.val,.bool true] else e.val) ?_ (.inl hK) (lkuRes_some ok z kv.2 (.rd (he.rd j e kv h2 h3).2))
    rw [hex]
    refine exec_v ?_
    rw [e1]
    simp [Instr.lookup,run_underlying hu,MapKept.run_getObj_map hb,hck,hfk,Result.andThen]
theorem s_mk {kd:KD} {xs:List Opd} (hok:mapOK P (.mk kd) xs o.op=true) (hR:Rel P c g σ a w) {d:Nat} (hcl:Clean c σ d)
  (h:sMap (.mk kd) d (xs.map (·.ev σ.env)) ob K L) (hF:Fin o c g σ a w K L K'):o.wp P a w K' Q':=by
 obtain ⟨t,rfl,ho⟩:∃t,xs=[]∧o.op=.makeMap t none:=by
  cases ho:o.op<;>rw [ho] at hok<;>try (simp [mapOK] at hok;done)
  rename_i t r
  cases r<;>simp [mapOK] at hok
  obtain ⟨_,h2⟩:=hok
  split at h2
  ·exact ⟨t,rfl,rfl⟩
  ·cases h2
 simp only [sMap,List.map_nil] at h
 have hrun:(execOp a.eval o).run P w=.ok (.value (.map (some w.heap.size))) (w.alloc (.map #[] 0)):=by
  simp [execOp,ho,Instr.makeMap]
 have hh:(w.alloc (.map #[] 0)).heap=w.heap.push (.map #[] 0):=rfl
 have e1:(g.set d w.heap.size 0 0).ρ d=w.heap.size:=by simp [Gh.set]
 have e4:¬(g.set d w.heap.size 0 0).nil d:=by simp [Gh.set]
 refine Fin.mk' hF h hrun (StepOK.alloc _ d 0 0 _ (.map #[] 0) hR.hp.lt rfl rfl rfl hh ?_) (Fresh.of_clean hcl) ?_
 ·refine ⟨e4,#[],0,by rw [e1,hh];simp,⟨rfl,(fun kv h=>by cases h),(fun i ent kv hi=>by simp at hi)⟩,by simp,by simp⟩
 ·have:=VR.omap (g:=g.set d w.heap.size 0 0) (w:=w.alloc (.map #[] 0)) d
  rw [e1] at this
  exact this
theorem nodup_modify {l:List MapEntry} {l':List MapEntry} (h:(l.map (·.born)).Nodup) (hl:l'.map (·.born)=l.map (·.born)):(l'.map (·.born)).Nodup:=by rw [hl];exact h
theorem up_core {kd:KD} {t kt et:TypeId} {r:Nat} {ents:Array MapEntry} {clock:Nat} {es:List (V×V)} {kv yv:Value} {kx:V} (hu:P.underlying t=some (.map kt et)) (hd:P.underlying kt=some kd.desc)
  (hb:w.heap[r]?=some (.map ents clock)) (he:Ents g.S w kd ents.toList es) (hb1:∀ent∈ents.toList,ent.born<clock) (hb2:(ents.toList.map (·.born)).Nodup) (hk1:kd.is kx=true) (hrk:Rd g.S w kv kx) :
  ∃ents' clock',(Instr.mapUpdate t (.map (some r)) kv yv).run P w=.ok () { w with heap:=w.heap.setIfInBounds r (.map ents' clock') } ∧
   (∀(S':Nat→Prop) (w':World) (y:V),Keep g.S w w'→(∀b,g.S b→S' b)→Rd S' w' yv y→Ents S' w' kd ents'.toList (mput kx y es))∧(∀ent∈ents'.toList,ent.born<clock')∧(ents'.toList.map (·.born)).Nodup  ∧
   ∀(y:V) (i:Nat) (ent:MapEntry) (q:V×V),ents'[i]?=some ent→(mput kx y es)[i]?=some q→(ent.val=yv∧q.2=y)∨(ents[i]?=some ent∧es[i]?=some q):=by
 have hck:=fun e=>run_checkKey' (w:=w) hd hk1 hrk e
 rcases find_ents hk1 hrk 0 he with ⟨h1,_,h3,_,h5⟩|⟨j,e,q,h1,h2,h3,h4,_,h6,_⟩
 ·have hfk:(Instr.findKey kt kv ents.toList).run P w=.ok none w:=MapKept.run_findKey hd h1
  refine ⟨ents.push { key:=kv,val:=yv,born:=clock },clock+1,?_,fun S' w' y hw hs hy=>?_,fun ent hm=>?_,?_,fun y i ent q hi hq=>?_⟩
  ·simp [Instr.mapUpdate,run_underlying hu,MapKept.run_getObj_map hb,hck,hfk,MapKept.run_setObj_map _ hb,Result.andThen]
  ·rw [h3,Array.toList_push]
   exact (he.mono hw hs).push hk1 (hrk.mono hw hs) hy clock
  ·rw [Array.toList_push] at hm
   rcases List.mem_append.1 hm with hm|hm
   ·have:=hb1 ent hm;omega
   ·simp at hm;subst hm;simp
  ·rw [Array.toList_push,List.map_append,List.nodup_append]
   refine ⟨hb2,by simp,fun x hx y hy=>?_⟩
   simp at hy;subst hy
   obtain ⟨q,hq,rfl⟩:=List.mem_map.1 hx
   have:=hb1 q hq
   omega
  ·rw [h3] at hq
   have hl:=he.len
   simp only [Array.length_toList] at hl
   rw [Array.getElem?_push] at hi
   by_cases hij:i=ents.size
   ·rw [if_pos hij] at hi;cases hi
    rw [List.getElem?_append_right (by omega),show i - es.length=0 by omega] at hq
    simp at hq;subst hq;exact .inl ⟨rfl,rfl⟩
   ·rw [if_neg hij] at hi
    have:=(Array.getElem?_eq_some_iff.1 hi).1
    rw [List.getElem?_append_left (by omega)] at hq
    exact .inr ⟨hi,hq⟩
 ·have hj:ents[j]?=some e:=by simpa using h2
  have hfk:(Instr.findKey kt kv ents.toList).run P w=.ok (some (0+j,e.val)) w:=MapKept.run_findKey hd h1
  have hst:=MapKept.run_keyThatStays (P:=P) (w:=w) (KD.rd hk1 hrk)
  have hget:∀i,(ents.modify j fun e=>{ e with key:=kv,val:=yv }).toList[i]?=if j=i then (ents.toList[i]?).map (fun e=>{ e with key:=kv,val:=yv }) else ents.toList[i]?:=fun i=>by
   simp only [Array.getElem?_toList,Array.getElem?_modify]
  refine ⟨ents.modify j fun e=>{ e with key:=kv,val:=yv },clock,?_,fun S' w' y hw hs hy=>?_,fun ent hm=>?_,?_,fun y i ent q' hi hq=>?_⟩
  ·simp only [Nat.zero_add] at hfk
   simp [Instr.mapUpdate,run_underlying hu,MapKept.run_getObj_map hb,hck,hfk,hj,h4,hst,MapKept.run_setObj_map _ hb,Result.andThen]
  ·rw [h6]
   refine (he.mono hw hs).modify h2 h3 hy (by simp) (fun e' hi=>?_) fun i hi=>?_
   ·rw [hget,if_pos rfl,h2] at hi
    simp at hi;subst hi
    exact ⟨h4.symm,rfl⟩
   ·rw [hget,if_neg (fun e=>hi e.symm)]
  ·obtain ⟨i,hi⟩:=List.mem_iff_getElem?.1 hm
   rw [hget] at hi
   split at hi
   ·rename_i hij;subst hij
    rw [h2] at hi;simp at hi;subst hi
    exact hb1 e (List.mem_of_getElem? h2)
   ·exact hb1 ent (List.mem_of_getElem? hi)
  ·refine nodup_modify hb2 (List.ext_getElem? fun i=>?_)
   rw [List.getElem?_map,List.getElem?_map,hget]
   split
   ·cases ents.toList[i]?<;>rfl
   ·rfl
  ·rw [h6] at hq
   rw [Array.getElem?_modify] at hi
   by_cases hij:j=i
   ·subst hij
    rw [if_pos rfl,hj] at hi
    simp at hi;subst hi
    rw [List.getElem?_set_self (List.getElem?_eq_some_iff.1 h3).1] at hq;cases hq
    exact .inl ⟨rfl,rfl⟩
   ·rw [if_neg hij] at hi
    rw [List.getElem?_set_ne hij] at hq
    exact .inr ⟨hi,hq⟩
theorem upd_inv {xs:List Opd} {op:Op} {kd:KD} {m:MapOp} (hm:m=.up kd∨m=.ups kd) (hok:mapOK P m xs op=true):∃x k y t x' k' y',xs=[x,k,y]∧(op=.mapUpdate t x' k' y'∨op=.insert t x' k' y')∧x.ok x'=true∧k.ok k'=true∧y.ok y'=true∧isMap P t (some kd) none=true:=by
 rcases hm with rfl|rfl<;>cases op<;>try (simp [mapOK] at hok;done)
 all_goals
  rename_i t x' k' y'
  simp only [mapOK,Bool.and_eq_true] at hok
  obtain ⟨h1,h3⟩:=hok
  split at h1
  ·rename_i x k y
   simp only [Bool.and_eq_true] at h1
   exact ⟨x,k,y,t,x',k',y',rfl,by simp,h1.1.1,h1.1.2,h1.2,h3⟩
  ·cases h1
theorem s_up {kd:KD} {xs:List Opd} (hok:mapOK P (.up kd) xs o.op=true) (hR:Rel P c g σ a w) (hob:∀id o,ob id=some o→find id σ.heap=some o) {d:Nat}
  (h:sMap (.up kd) d (xs.map (·.ev σ.env)) ob K L) (hF:Fin o c g σ a w K L K'):o.wp P a w K' Q':=by
 obtain ⟨x,k,y,t,x',k',y',rfl,ho,hx,hk,hy,hm⟩:=upd_inv (.inl rfl) hok
 obtain ⟨kt,et,hu,hkd,_⟩:=isMap_inv hm
 have hd:=hkd kd rfl
 have vx:=Opd.vr hR hx
 have vk:=Opd.vr hR hk
 have vy:=Opd.vr hR hy
 simp only [List.map_cons,List.map_nil] at h
 unfold sMap at h
 split at h<;>try (rename_i heq;simp at heq;done)
 all_goals try (rename_i e1 e2;cases e1;done)
 case h_21=>exact h.elim
 rename_i kd1 id k1 v1 e1 e2
 cases e1
 simp only [List.cons.injEq,and_true] at e2
 obtain ⟨e2,e3,e4⟩:=e2
 rw [e2] at vx
 subst e3 e4
 split at h
 case h_2=>exact h.elim
 rename_i kd' es hobj
 cases hkk:kd.is (k.ev σ.env)&&kd'.is (k.ev σ.env)&&(y.ev σ.env).sealed with
 | false=>rw [hkk] at h;exact h.elim
 | true =>
  rw [hkk] at h
  simp only [Bool.and_eq_true] at hkk
  obtain ⟨⟨hk1,hk2⟩,hse⟩:=hkk
  have:=KD.same hk1 hk2;subst this
  have hfd:=hob _ _ hobj
  obtain ⟨hnn,ents,clock,hb,he,hb1,hb2⟩:=hR.hp.obj _ _ hfd
  have hrk:=vk.sc_rd (KD.sc hk1)
  have hry:=vy.sealed_rd hse
  have hxe:=vx.omap_inv
  have hlt:g.ρ id<w.heap.size:=(Array.getElem?_eq_some_iff.1 hb).1
  obtain ⟨ents',clock',hrun,q1,q2,q3,q4⟩:=up_core (yv:=a.eval y') hu hd hb he hb1 hb2 hk1 hrk
  have hother:∀b,b≠g.ρ id→(w.heap.setIfInBounds (g.ρ id) (.map ents' clock'))[b]?=w.heap[b]?:=fun b hb=>by simp [Ne.symm hb]
  have hkeep:Keep g.S w { w with heap:=w.heap.setIfInBounds (g.ρ id) (.map ents' clock') }:=Keep.upd hR.hp hfd hnn hother
  unfold Oper.wp
  have:(execOp a.eval o).run P w=.ok .skip { w with heap:=w.heap.setIfInBounds (g.ρ id) (.map ents' clock') }:=by
   rcases ho with ho|ho<;>simp [execOp,ho,hxe,hrun]
  rw [this]
  refine hF _ (.inl h) g undef _ (StepOK.upd _ id _ _ hR.hp hfd hnn rfl rfl rfl (by simp) hother ?_) (Fresh.upd _) (.any _)
  exact ⟨hnn,ents',clock',by simp [hlt],q1 _ _ _ hkeep (fun _ h=>h) (hry.mono hkeep fun _ h=>h),q2,q3⟩
def Gh.shutR (g:Gh) (n:Nat):Gh:={ g with S:=fun b=>g.S b∨(¬g.nil n∧b=g.ρ n) }
theorem osl_shut {j q n:Nat} {xs:List V} {ty:Option TypeId} {v:Value} (ho:OR g w j (.arr q xs ty)) (h:VR g w v (.osl j q 0 n)) (hn:n=xs.length):Rd (g.shutR j).S w v (.sl xs):=by
 cases h with
 | rd h=>cases h
 | oslnil id k' lo h =>
  have:xs=[]:=List.length_eq_zero_iff.1 hn.symm
  subst this
  exact .nilsl
 | osl id k' lo len o c h hoo hc hl hm =>
  rcases ho with ⟨hn',_⟩|⟨hn',hkp,⟨cur,e,fz,h1,h2,h3,h4⟩,h5,h6,h7⟩
  ·exact absurd hn' h
  ·refine .sl _ o n c q cur e fz _ (.inr ⟨h,rfl⟩) h1 hn.symm (Nat.le_trans hl hm) hl ?_ (fun x hx=>h7 x hx) fun i j' x cx hi hj=>?_
   ·rcases hoo with h0|h0
    ·exact .inl (by omega)
    ·refine .inr ?_
     rw [h0,h2,←Nat.add_mul]
     exact Nat.mul_le_mul_right q (by omega)
   ·have hil:i<n:=by rw [hn];exact (List.getElem?_eq_some_iff.1 hi).1
    have hoo':o=(g.base j+0)*q:=hoo.resolve_left (by omega)
    have:=(h4 i j' x cx hi hj).mono (S':=(g.shutR j).S) (w':=w) (fun _ _=>rfl) (fun _ h=>.inl h)
    have e1:o+i*q+j'=(g.base j+i)*q+j':=by rw [hoo',Nat.add_zero,Nat.add_mul (g.base j) i q]
    rw [e1];exact this
theorem osl_new {j q n m:Nat} {xs:List V} {ty:Option TypeId} {v:Value} (ho:OR g w j (.arr q xs ty)) (h:VR g w v (.osl j q 0 n)) (hn:n=xs.length) (hb:∀b,m.testBit b=true→g.S b) (hs:¬g.nil j→¬g.S (g.ρ j)):NewRow (g.shutR j).S m q w v xs:=by
 cases h with
 | rd h=>cases h
 | oslnil id k' lo h =>
  have:xs=[]:=List.length_eq_zero_iff.1 hn.symm
  exact .inl ⟨rfl,this⟩
 | osl id k' lo len o c h hoo hc hl hm =>
  rcases ho with ⟨hn',_⟩|⟨hn',⟨hkp,⟨cur,e,fz,h1,h2,h3,h4⟩,h5,h6,h7⟩⟩
  ·exact absurd hn' h
  ·refine .inr ⟨g.ρ j,o,g.base j,g.cap j,c,by rw [hn],by simpa using hoo,by rw [←hn];exact hl,by omega,hm,?_,.inr ⟨h,rfl⟩,hkp,⟨cur,e,fz,h1,h2,⟨h3.1,trivial⟩,fun i j' x y hi hj=>(h4 i j' x y hi hj).mono (fun _ _=>rfl) fun _ h=>.inl h⟩,h5,h6,h7⟩
   cases ht:m.testBit (g.ρ j) with
   | false=>rfl
   | true=>exact absurd (hb _ ht) (hs h)
theorem s_ups {kd:KD} {xs:List Opd} (hok:mapOK P (.ups kd) xs o.op=true) (hR:Rel P c g σ a w) (hob:∀id o,ob id=some o→find id σ.heap=some o) {d:Nat}
  (h:sMap (.ups kd) d (xs.map (·.ev σ.env)) ob K L) (hF:Fin o c g σ a w K L K'):o.wp P a w K' Q':=by
 obtain ⟨x,k,y,t,x',k',y',rfl,ho,hx,hk,hy,hm⟩:=upd_inv (.inr rfl) hok
 obtain ⟨kt,et,hu,hkd,_⟩:=isMap_inv hm
 have hd:=hkd kd rfl
 have vx:=Opd.vr hR hx
 have vk:=Opd.vr hR hk
 have vy:=Opd.vr hR hy
 simp only [List.map_cons,List.map_nil] at h
 unfold sMap at h
 split at h<;>try (rename_i heq;simp at heq;done)
 all_goals try (rename_i e1 e2;cases e1;done)
 case h_21=>exact h.elim
 rename_i kd1 id k1 j q n e1 e2
 cases e1
 simp only [List.cons.injEq,and_true] at e2
 obtain ⟨e2,e3,e4⟩:=e2
 rw [e2] at vx
 rw [e4] at vy
 subst e3
 split at h
 case h_3=>exact h.elim
 case h_2 =>
  rename_i z p kd' es q' ys ty hobj hobj2
  cases hkk:kd.is (k.ev σ.env)&&kd'.is (k.ev σ.env)&&(Nat.beq q q'&&Nat.beq n ys.length&&!Nat.beq id j)&&Nat.beq q p with
  | false=>rw [hkk] at h;exact h.elim
  | true =>
   rw [hkk] at h
   simp only [Bool.and_eq_true,Bool.not_eq_true'] at hkk
   obtain ⟨⟨⟨hk1,hk2⟩,⟨hq,hn⟩,hij⟩,hqp⟩:=hkk
   have:=Nat.eq_of_beq_eq_true hqp;subst this
   have:=Nat.eq_of_beq_eq_true hq;subst this
   have hn:=Nat.eq_of_beq_eq_true hn
   have hij:id≠j:=Nat.ne_of_beq_eq_false hij
   have:=KD.same hk1 hk2;subst this
   have hfd:=hob _ _ hobj
   have hfd2:=hob _ _ hobj2
   obtain ⟨hnn,ents,clock,hb,he,hb1,hb2,hnr,hB⟩:=hR.hp.obj _ _ hfd
   have hrk:=vk.sc_rd (KD.sc hk1)
   have hnw:=osl_new (hR.hp.obj _ _ hfd2) vy hn hB (hR.hp.sep _ _ hfd2)
   have hry:=osl_shut (hR.hp.obj _ _ hfd2) vy hn
   have hxe:=vx.omap_inv
   have hlt:g.ρ id<w.heap.size:=(Array.getElem?_eq_some_iff.1 hb).1
   obtain ⟨ents',clock',hrun,q1,q2,q3,q4⟩:=up_core (yv:=a.eval y') hu hd hb he hb1 hb2 hk1 hrk
   have hother:∀b,b≠g.ρ id→(w.heap.setIfInBounds (g.ρ id) (.map ents' clock'))[b]?=w.heap[b]?:=fun b hb=>by simp [Ne.symm hb]
   have hns:¬(g.shutR j).S (g.ρ id):=by
    rintro (h1|⟨h1,h2⟩)
    ·exact hR.hp.sep id _ hfd hnn h1
    ·exact hij (hR.hp.inj id j _ _ hfd hfd2 hnn h1 h2)
   have hkeep:Keep (g.shutR j).S w { w with heap:=w.heap.setIfInBounds (g.ρ id) (.map ents' clock') }:=fun b hb=>hother b fun e=>hns (e▸hb)
   have hup:∀b,g.S b→(g.shutR j).S b:=fun _ h=>.inl h
   unfold Oper.wp
   have:(execOp a.eval o).run P w=.ok .skip { w with heap:=w.heap.setIfInBounds (g.ρ id) (.map ents' clock') }:=by
    rcases ho with ho|ho<;>simp [execOp,ho,hxe,hrun]
   rw [this]
   have hOR:OR (g.shutR j) { w with heap:=w.heap.setIfInBounds (g.ρ id) (.map ents' clock') } id (.nmap z q kd (mput (k.ev σ.env) (.sl ys) es)) :=
    ⟨hnn,ents',clock',by simp [hlt,Gh.shutR],q1 _ _ _ (fun b hb=>hkeep b (hup b hb)) hup (hry.mono hkeep fun _ h=>h),q2,q3,fun i ent u hi hu=>by
     rcases q4 _ i ent u hi hu with ⟨e5,e6⟩|⟨e5,e6⟩
     ·exact ⟨ys,e6,by rw [e5];exact hnw.mono hkeep fun _ h=>h⟩
     ·obtain ⟨zs,e7,e8⟩:=hnr i ent u e5 e6
      exact ⟨zs,e7,e8.mono (fun b hb=>hkeep b (hup b hb)) hup⟩,fun b hb=>.inl (hB b hb)⟩
   refine hF _ (.inl h) (g.shutR j) undef _ ⟨rfl,rfl,rfl,by simp,fun b hb hb'=>hother b fun e=>hb' id _ (by simp [Eff.ids]) hfd hnn e.symm,hup,fun b hb=>?_,fun b hb=>?_,fun i _=>⟨rfl,rfl,rfl,Iff.rfl⟩,?_,?_,?_,?_⟩ (fun i o' _=>.inl ⟨rfl,rfl,rfl,Iff.rfl⟩) (.any _)
   ·rcases hb with hb|⟨h1,h2⟩
    ·exact .inl hb
    ·exact .inr (.inr ⟨j,_,by simp [Eff.ids],hfd2,h1,h2.symm⟩)
   ·rcases hb with hb|⟨h1,h2⟩
    ·have:=hR.hp.lt b hb;simpa using this
    ·rcases hR.hp.obj _ _ hfd2 with ⟨h3,_⟩|⟨_,_,⟨cur,e,fz,h4,_⟩,_⟩
     ·exact absurd h3 h1
     ·rw [h2];have:=(Array.getElem?_eq_some_iff.1 h4).1;simpa using this
   ·intro i o1 hi;simp at hi;obtain ⟨rfl,rfl⟩:=hi;exact hOR
   ·intro i o1 hi _;simp at hi;obtain ⟨rfl,rfl⟩:=hi;exact .inr ⟨i,_,by simp [Eff.ids],hfd,hnn,rfl⟩
   ·intro i i' o1 o2 hi hj;simp at hi hj;intro _ _ _;rw [hi.1,hj.1]
   ·intro i o1 hi _;simp at hi;obtain ⟨rfl,rfl⟩:=hi;exact hns
 rename_i kd' es q' ys ty hobj hobj2
 cases hkk:kd.is (k.ev σ.env)&&kd'.is (k.ev σ.env)&&(Nat.beq q q'&&Nat.beq n ys.length&&!Nat.beq id j) with
 | false=>rw [hkk] at h;exact h.elim
 | true =>
  rw [hkk] at h
  simp only [Bool.and_eq_true,Bool.not_eq_true'] at hkk
  obtain ⟨⟨hk1,hk2⟩,⟨hq,hn⟩,hij⟩:=hkk
  have:=Nat.eq_of_beq_eq_true hq;subst this
  have hn:=Nat.eq_of_beq_eq_true hn
  have hij:id≠j:=Nat.ne_of_beq_eq_false hij
  have:=KD.same hk1 hk2;subst this
  have hfd:=hob _ _ hobj
  have hfd2:=hob _ _ hobj2
  obtain ⟨hnn,ents,clock,hb,he,hb1,hb2⟩:=hR.hp.obj _ _ hfd
  have hrk:=vk.sc_rd (KD.sc hk1)
  have hry:=osl_shut (hR.hp.obj _ _ hfd2) vy hn
  have hxe:=vx.omap_inv
  have hlt:g.ρ id<w.heap.size:=(Array.getElem?_eq_some_iff.1 hb).1
  obtain ⟨ents',clock',hrun,q1,q2,q3,q4⟩:=up_core (yv:=a.eval y') hu hd hb he hb1 hb2 hk1 hrk
  have hother:∀b,b≠g.ρ id→(w.heap.setIfInBounds (g.ρ id) (.map ents' clock'))[b]?=w.heap[b]?:=fun b hb=>by simp [Ne.symm hb]
  have hns:¬(g.shutR j).S (g.ρ id):=by
   rintro (h1|⟨h1,h2⟩)
   ·exact hR.hp.sep id _ hfd hnn h1
   ·exact hij (hR.hp.inj id j _ _ hfd hfd2 hnn h1 h2)
  have hkeep:Keep (g.shutR j).S w { w with heap:=w.heap.setIfInBounds (g.ρ id) (.map ents' clock') }:=fun b hb=>hother b fun e=>hns (e▸hb)
  have hup:∀b,g.S b→(g.shutR j).S b:=fun _ h=>.inl h
  unfold Oper.wp
  have:(execOp a.eval o).run P w=.ok .skip { w with heap:=w.heap.setIfInBounds (g.ρ id) (.map ents' clock') }:=by
   rcases ho with ho|ho<;>simp [execOp,ho,hxe,hrun]
  rw [this]
  have hOR:OR (g.shutR j) { w with heap:=w.heap.setIfInBounds (g.ρ id) (.map ents' clock') } id (.map kd (mput (k.ev σ.env) (.sl ys) es)) :=
   ⟨hnn,ents',clock',by simp [hlt,Gh.shutR],q1 _ _ _ (fun b hb=>hkeep b (hup b hb)) hup (hry.mono hkeep fun _ h=>h),q2,q3⟩
  refine hF _ (.inl h) (g.shutR j) undef _ ⟨rfl,rfl,rfl,by simp,fun b hb hb'=>hother b fun e=>hb' id _ (by simp [Eff.ids]) hfd hnn e.symm,hup,fun b hb=>?_,fun b hb=>?_,fun i _=>⟨rfl,rfl,rfl,Iff.rfl⟩,?_,?_,?_,?_⟩ (fun i o' _=>.inl ⟨rfl,rfl,rfl,Iff.rfl⟩) (.any _)
  ·rcases hb with hb|⟨h1,h2⟩
   ·exact .inl hb
   ·exact .inr (.inr ⟨j,_,by simp [Eff.ids],hfd2,h1,h2.symm⟩)
  ·rcases hb with hb|⟨h1,h2⟩
   ·have:=hR.hp.lt b hb;simpa using this
   ·rcases hR.hp.obj _ _ hfd2 with ⟨h3,_⟩|⟨_,_,⟨cur,e,fz,h4,_⟩,_⟩
    ·exact absurd h3 h1
    ·rw [h2];have:=(Array.getElem?_eq_some_iff.1 h4).1;simpa using this
  ·intro i o1 hi;simp at hi;obtain ⟨rfl,rfl⟩:=hi;exact hOR
  ·intro i o1 hi _;simp at hi;obtain ⟨rfl,rfl⟩:=hi;exact .inr ⟨i,_,by simp [Eff.ids],hfd,hnn,rfl⟩
  ·intro i i' o1 o2 hi hj;simp at hi hj;intro _ _ _;rw [hi.1,hj.1]
  ·intro i o1 hi _;simp at hi;obtain ⟨rfl,rfl⟩:=hi;exact hns
theorem osl_val {v:Value} {i k lo n:Nat} (h:VR g w v (.osl i k lo n)):∃p l q,v=.slice p l q∧(p=none→n=0):=by
 cases h with
 | rd h=>cases h
 | oslnil=>exact ⟨_,_,_,rfl,fun _=>rfl⟩
 | osl=>exact ⟨_,_,_,rfl,fun h=>by cases h⟩
theorem s_uss {xs:List Opd} (hok:mapOK P .uss xs o.op=true) (hR:Rel P c g σ a w) (hob:∀id o,ob id=some o→find id σ.heap=some o) {d:Nat}
  (h:sMap .uss d (xs.map (·.ev σ.env)) ob K L) (hF:Fin o c g σ a w K L K'):o.wp P a w K' Q':=by
 obtain ⟨x,y,t,x',y',rfl,ho,hx,hy,ht⟩:∃x y t x' y',xs=[x,y]∧o.op=.store t x' y'∧x.ok x'=true∧y.ok y'=true∧sizeIs P t 1=true:=by
  cases ho:o.op<;>rw [ho] at hok<;>try (simp [mapOK] at hok;done)
  simp only [mapOK,Bool.and_eq_true] at hok
  obtain ⟨h1,h2⟩:=hok
  split at h1
  ·simp only [Bool.and_eq_true] at h1
   exact ⟨_,_,_,_,_,rfl,rfl,h1.1,h1.2,h2⟩
  ·cases h1
 have vx:=Opd.vr hR hx
 have vy:=Opd.vr hR hy
 have hsz:=sizeIs_run ht
 simp only [List.map_cons,List.map_nil] at h
 unfold sMap at h
 split at h<;>try (rename_i heq;simp at heq;done)
 all_goals try (rename_i e1 e2;cases e1;done)
 case h_21=>exact h.elim
 rename_i id k i j q n e1 e2
 simp only [List.cons.injEq,and_true] at e2
 obtain ⟨e2,e3⟩:=e2
 rw [e2] at vx
 rw [e3] at vy
 split at h
 case h_2=>exact h.elim
 rename_i k' xs t0 q' ys ty hobj hobj2
 cases hkk:Nat.beq k 1&&Nat.beq k' 1&&(Nat.beq q q'&&Nat.beq n ys.length&&!Nat.beq id j) with
 | false=>rw [hkk] at h;exact h.elim
 | true =>
  rw [hkk] at h
  simp only [Bool.and_eq_true,Bool.not_eq_true'] at hkk
  obtain ⟨⟨hk1,hk2⟩,⟨hq,hn⟩,hij⟩:=hkk
  have:=Nat.eq_of_beq_eq_true hk1;subst this
  have:=Nat.eq_of_beq_eq_true hk2;subst this
  have:=Nat.eq_of_beq_eq_true hq;subst this
  have hn:=Nat.eq_of_beq_eq_true hn
  have hij:id≠j:=Nat.ne_of_beq_eq_false hij
  obtain ⟨hlt,hK⟩:=h
  have hfd:=hob _ _ hobj
  have hfd2:=hob _ _ hobj2
  have hry:=osl_shut (hR.hp.obj _ _ hfd2) vy hn
  have hxe:a.eval x'=.pointer (some ⟨g.ρ id,(g.base id+i)*1+0,none⟩):=vx.optr_inv
  have hone:(a.eval y').cells=#[a.eval y']∧(a.eval y').oneCell'=true:=by
   obtain ⟨p,l,r,hv,_⟩:=osl_val vy
   rw [hv];exact ⟨rfl,rfl⟩
  rcases hR.hp.obj _ _ hfd with ⟨_,hnil⟩|⟨hnn,ha⟩
  ·rw [hnil] at hlt;simp at hlt
  have ha0:=ha
  obtain ⟨hkp,⟨cur,e,fz,h1,h2,⟨h3,_⟩,h4⟩,h5,h6,h7⟩:=ha
  have hle:(g.base id+i)*1+0+0+[a.eval y'].length≤cur.size:=by
   rw [h2];simp;omega
  obtain ⟨w',cur',r1,r2,r3,r4,r5,r6,r7,r8,r9⟩:=run_storeRow (P:=P) (g.ρ id) ((g.base id+i)*1+0) e fz [a.eval y'] 0 cur w h1 h3 hle (fun v hv=>by simp only [List.mem_singleton] at hv;subst hv;exact hone.2)
  have hns:¬(g.shutR j).S (g.ρ id):=by
   rintro (h1|⟨h1,h2⟩)
   ·exact hR.hp.sep id _ hfd hnn h1
   ·exact hij (hR.hp.inj id j _ _ hfd hfd2 hnn h1 h2)
  have hkeep:Keep (g.shutR j).S w w':=fun b hb=>r6 b fun e=>hns (e▸hb)
  have hup:∀b,g.S b→(g.shutR j).S b:=fun _ h=>.inl h
  unfold Oper.wp
  have:(execOp a.eval o).run P w=.ok .skip w':=by
   have hne:¬((a.eval y').cells.size≠1):=by rw [hone.1];simp
   simp only [execOp,ho,Instr.storeAt,hxe,Instr.sureAddr,storeVar,Sem.run_bind,Sem.run_pure,Result.andThen_ok,hsz w,hne,if_false]
   rw [show (a.eval y').cells.toList=[a.eval y'] by rw [hone.1]]
   simp only [r1,Result.andThen_ok]
  rw [this]
  have hseal:(V.sl ys).cells.length=1∧(∀c∈(V.sl ys).cells,c.one=true)∧(V.sl ys).sealed=true:=⟨rfl,fun c hc=>by simp [V.cells] at hc;subst hc;rfl,rfl⟩
  have hA:ArrAt (g.shutR j).S w (g.ρ id) (g.base id) (g.cap id) 1 xs t0:=by
   obtain ⟨p1,⟨cur,e,fz,p2,p3,p4,p5⟩,p6,p7,p8⟩:=ha0
   exact ⟨p1,⟨cur,e,fz,p2,p3,p4,fun i j x c hx hc=>(p5 i j x c hx hc).mono (fun _ _=>rfl) hup⟩,p6,p7,p8⟩
  have hxi:xs[i]?=some xs[i]:=List.getElem?_eq_getElem hlt
  have hOR:OR (g.shutR j) w' id (.arr 1 (xs.set i (.sl ys)) t0) :=
   .inr ⟨hnn,hA.set hkeep hxi (x':=.sl ys) (ys:=[.sl ys]) (off:=0) (by
    have:=(h7 _ (List.getElem_mem hlt)).1
    unfold setCells
    rw [List.take_zero,List.nil_append,List.drop_eq_nil_of_le (by simp;omega),List.append_nil];rfl) (by simp) hseal h1 r7 r8 (vs:=[a.eval y']) rfl (fun m y hm=>by
     match m,hm with
     | 0,hm=>simp at hm;subst hm;exact hry
     | m+1,hm=>simp at hm) (fun m=>by have:=r9 m;simpa using this)⟩
  refine hF _ (.inl hK) (g.shutR j) undef _ ⟨r2,r3,r4,by rw [r5];exact Nat.le_refl _,fun b hb hb'=>r6 b fun e=>hb' id _ (by simp [Eff.ids]) hfd hnn e.symm,hup,fun b hb=>?_,fun b hb=>?_,fun i _=>⟨rfl,rfl,rfl,Iff.rfl⟩,?_,?_,?_,?_⟩ (fun i o' _=>.inl ⟨rfl,rfl,rfl,Iff.rfl⟩) (.any _)
  ·rcases hb with hb|⟨h1,h2⟩
   ·exact .inl hb
   ·exact .inr (.inr ⟨j,_,by simp [Eff.ids],hfd2,h1,h2.symm⟩)
  ·rcases hb with hb|⟨h1,h2⟩
   ·have:=hR.hp.lt b hb;rw [r5];exact this
   ·rcases hR.hp.obj _ _ hfd2 with ⟨h3,_⟩|⟨_,_,⟨cur,e,fz,h4,_⟩,_⟩
    ·exact absurd h3 h1
    ·rw [h2,r5];exact (Array.getElem?_eq_some_iff.1 h4).1
  ·intro i o1 hi;simp at hi;obtain ⟨rfl,rfl⟩:=hi;exact hOR
  ·intro i o1 hi _;simp at hi;obtain ⟨rfl,rfl⟩:=hi;exact .inr ⟨i,_,by simp [Eff.ids],hfd,hnn,rfl⟩
  ·intro i i' o1 o2 hi hj;simp at hi hj;intro _ _ _;rw [hi.1,hj.1]
  ·intro i o1 hi _;simp at hi;obtain ⟨rfl,rfl⟩:=hi;exact hns
theorem born_sealed {H:Heap} {d k:Nat} {vs:List V} {ty:Option TypeId} {g':Gh} {w':World} {v:Value} (hs:StepOK g H w ⟨.osl d k 0 vs.length,[],[(d,.arr k vs ty)]⟩ g' w') (hv:VR g' w' v (.osl d k 0 vs.length)) (hd:find d H=none) :
  ∃g'',StepOK g H w ⟨.sl vs,[],[]⟩ g'' w'∧VR g'' w' v (.sl vs):=by
 have hids:∀id o,id∈(Eff.mk (.osl d k 0 vs.length) [] [(d,.arr k vs ty)]).ids→find id H=some o→False:=fun id o hi ho=>by
  simp [Eff.ids] at hi
  rw [hi,hd] at ho;cases ho
 have ho:=hs.obj d (.arr k vs ty) (by simp)
 have hnew:∀b,¬g'.nil d→b=g'.ρ d→w.heap.size≤b:=fun b hn e=>by
  rcases hs.blk d (.arr k vs ty) (by simp) hn with h|⟨id0,o0,h1,h2,_⟩
  ·rw [e];exact h
  ·exact (hids id0 o0 h1 h2).elim
 refine ⟨{ g with S:=fun b=>g'.S b∨(¬g'.nil d∧b=g'.ρ d) },⟨hs.os,hs.tape,hs.output,hs.size,fun b hb _=>hs.keep b hb fun id o h1 h2=>(hids id o h1 h2).elim,fun b hb=>.inl (hs.sup b hb),fun b hb=>?_,fun b hb=>?_,
  fun id _=>⟨rfl,rfl,rfl,Iff.rfl⟩,fun _ _ h=>by simp at h,fun _ _ h=>by simp at h,fun _ _ _ _ h=>by simp at h,fun _ _ h=>by simp at h⟩,.rd ?_⟩
 ·rcases hb with hb|⟨h1,h2⟩
  ·rcases hs.sub b hb with h|h|⟨id,o,h1,h2,_⟩
   ·exact .inl h
   ·exact .inr (.inl h)
   ·exact (hids id o h1 h2).elim
  ·exact .inr (.inl (hnew b h1 h2))
 ·rcases hb with hb|⟨h1,h2⟩
  ·exact hs.slt b hb
  ·rw [h2];exact ho.block h1
 ·rcases hv.osl_inv with ⟨hn,rfl,h0⟩|⟨hn,o,cc,rfl,h2,h3,h4,h5⟩
  ·have:vs=[]:=List.eq_nil_of_length_eq_zero h0
   subst this;exact .nilsl
  ·rcases ho with ⟨h,_⟩|⟨_,kpos,⟨cur,e,fz,r1,r2,r3,r4⟩,hlen,hbig,helem⟩
   ·exact absurd h hn
   by_cases hz:vs=[]
   ·subst hz
    exact .sl _ o 0 cc k cur e fz [] (.inr ⟨hn,rfl⟩) r1 rfl (Nat.zero_le _) (Nat.zero_le _) (.inl rfl) (fun x hx=>by cases hx) fun i j x c hx=>by simp at hx
   have hvl:vs.length≠0:=fun h=>hz (List.eq_nil_of_length_eq_zero h)
   have ho':o=(g'.base d+0)*k:=by
    rcases h2 with h|h
    ·omega
    ·exact h
   have hsz:o+vs.length*k≤cur.size:=by
    rw [ho',r2,←Nat.add_mul]
    exact Nat.mul_le_mul_right k (by omega)
   refine .sl _ o vs.length cc k cur e fz vs (.inr ⟨hn,rfl⟩) r1 rfl (by omega) h4 (.inr hsz) helem fun i j x c hx hc=>?_
   have:=r4 i j x c hx hc
   rw [show (g'.base d+i)*k+j=o+i*k+j by rw [ho',Nat.add_zero,Nat.add_mul]] at this
   exact this.mono (fun _ _=>rfl) fun b hb=>.inl hb
theorem beq_no {n m:Nat} (h:n≠m):Nat.beq n m=false:=by
 cases hb:Nat.beq n m with
 | true=>exact absurd (Nat.eq_of_beq_eq_true hb) h
 | false=>rfl
mutual
theorem has_bound:∀x:V,∃m,∀n,m≤n→x.has n=false
 | .ptr id _=>⟨id+1,fun n h=>by simp only [V.has];exact beq_no (by omega)⟩
 | .osl id _ _ _=>⟨id+1,fun n h=>by simp only [V.has];exact beq_no (by omega)⟩
 | .optr id _ _ _=>⟨id+1,fun n h=>by simp only [V.has];exact beq_no (by omega)⟩
 | .omap id=>⟨id+1,fun n h=>by simp only [V.has];exact beq_no (by omega)⟩
 | .bptr id=>⟨id+1,fun n h=>by simp only [V.has];exact beq_no (by omega)⟩
 | .nsl id _ _=>⟨id+1,fun n h=>by simp only [V.has];exact beq_no (by omega)⟩
 | .nsmap id _ _ _=>⟨id+1,fun n h=>by simp only [V.has];exact beq_no (by omega)⟩
 | .at_ id _=>⟨id+1,fun n h=>by simp only [V.has];exact beq_no (by omega)⟩
 | .agg cs=>by obtain ⟨m,h⟩:=hasL_bound cs;exact ⟨m,fun n hn=>by simp only [V.has];exact h n hn⟩
 | .tup cs=>by obtain ⟨m,h⟩:=hasL_bound cs;exact ⟨m,fun n hn=>by simp only [V.has];exact h n hn⟩
 | .fn _ cs=>by obtain ⟨m,h⟩:=hasL_bound cs;exact ⟨m,fun n hn=>by simp only [V.has];exact h n hn⟩
 | .bool _|.int _ _|.str _|.nils|.nilp|.nilm|.nilf|.nili|.ifc _|.sl _|.smap _ _|.eptr _ _|.adr _ _|.any=>⟨0,fun n _=>by simp [V.has]⟩
theorem hasL_bound:∀cs:List V,∃m,∀n,m≤n→V.hasL n cs=false
 | []=>⟨0,fun n _=>by simp [V.hasL]⟩
 | x::r=>by
  obtain ⟨m1,h1⟩:=has_bound x
  obtain ⟨m2,h2⟩:=hasL_bound r
  exact ⟨max m1 m2,fun n hn=>by simp only [V.hasL,h1 n (by omega),h2 n (by omega)];rfl⟩
end
theorem fresh_env:∀e:List (Nat×V),∃m,∀n,m≤n→noEnv n e=true
 | []=>⟨0,fun n _=>rfl⟩
 | (s,x)::r=>by
  obtain ⟨m1,h1⟩:=has_bound x
  obtain ⟨m2,h2⟩:=fresh_env r
  exact ⟨max m1 m2,fun n hn=>by simp [noEnv,h1 n (by omega),h2 n (by omega)]⟩
theorem fresh_heap:∀H:Heap,∃m,∀n,m≤n→noHeap n H=true∧find n H=none
 | []=>⟨0,fun n _=>⟨rfl,rfl⟩⟩
 | (s,x)::r=>by
  obtain ⟨m2,h2⟩:=fresh_heap r
  have h1:∃m,∀n,m≤n→x.has n=false:=by
   cases x with
   | cells cs t=>obtain ⟨m,h⟩:=hasL_bound cs;exact ⟨m,fun n hn=>by simp only [Obj'.has];exact h n hn⟩
   | nmap z k kd es=>exact ⟨z+1,fun n hn=>by simp only [Obj'.has];exact beq_no (by omega)⟩
   | _=>exact ⟨0,fun n _=>by simp [Obj'.has]⟩
  obtain ⟨m1,h1⟩:=h1
  refine ⟨max (max m1 m2) (s+1),fun n hn=>⟨?_,?_⟩⟩
  ·simp [noHeap,h1 n (by omega),(h2 n (by omega)).1]
  ·have:Nat.beq n s=false:=by
    cases hb:Nat.beq n s with
    | true=>have:=Nat.eq_of_beq_eq_true hb;omega
    | false=>rfl
   simp only [find,this,cond_false];exact (h2 n (by omega)).2
theorem fresh_id (c:Ctx) (σ:St):∃n,Clean c σ n∧find n σ.heap=none:=by
 obtain ⟨m1,h1⟩:=fresh_env σ.env
 obtain ⟨m2,h2⟩:=fresh_heap σ.heap
 obtain ⟨m3,h3⟩:=fresh_heap c.H0
 exact ⟨max (max m1 m2) m3,⟨(h3 _ (by omega)).2,h1 _ (by omega),(h2 _ (by omega)).1⟩,(h2 _ (by omega)).2⟩
theorem s_lsl {k:Nat} {xs:List Opd} (hok:(MIns.lsl k xs).ok P o.op=true) (hR:Rel P c g σ a w) {d0:Nat} (h:stepV P (.lsl k xs) d0 (xs.map (·.ev σ.env)) ob K L) (hF:Fin o c g σ a w K L K'):o.wp P a w K' Q':=by
 obtain ⟨d,hcl,hfr⟩:=fresh_id c σ
 have hok':(MIns.bslice k xs false).ok P o.op=true:=by
  cases ho:o.op<;>rw [ho] at hok<;>try (simp [MIns.ok] at hok;done)
  exact hok
 have hk:(xs.map (·.ev σ.env)).all (okElem k)=true∧K (evl (.sl (xs.map (·.ev σ.env)))):=by
  unfold stepV at h
  by_cases hb:(xs.map (·.ev σ.env)).all (okElem k)=true
  ·simp only [hb,cond_true] at h;exact ⟨hb,h⟩
  ·simp [hb] at h
 refine s_bslice (K:=fun e=>e=⟨.osl d k 0 (xs.map (·.ev σ.env)).length,[],[(d,.arr k (xs.map (·.ev σ.env)))]⟩) (L:=fun _=>False) (d:=d) (ob:=ob) hok' hR hcl ?_ fun eff he g' v w' h1 h2 h3=>?_
 ·unfold stepV;simp only [hk.1,cond_true,uvT]
 ·rcases he with rfl|he
  ·obtain ⟨g'',k1,k2⟩:=born_sealed h1 h3 hfr
   exact hF _ (.inl hk.2) g'' v w' k1 (fun _ _ h=>by simp [evl] at h) k2
  ·exact he.elim
def shV (ob:Nat→Option Obj'):V→V
 | .osl j q 0 n=>match ob j with
  | some (.arr _ ys _)=>.sl ys
  | _=>.osl j q 0 n
 | x=>x
theorem shutV_inv {ob:Nat→Option Obj'}:∀{vs:List V} {p:List V×List Nat},shutV ob vs=some p →
  p.1=vs.map (shV ob)∧(∀j∈p.2,∃q ys t,ob j=some (.arr q ys t)) ∧
   ∀v∈vs,okElem 1 (shV ob v)=true∧(shV ob v=v∨∃j q ys t,v=.osl j q 0 ys.length∧ob j=some (.arr q ys t)∧shV ob v=.sl ys∧j∈p.2)
 | [],p,h=>by
  simp only [shutV,Option.some.injEq] at h
  subst h
  refine ⟨rfl,?_,?_⟩
  ·intro j hj;cases hj
  ·intro v hv;cases hv
 | v :: r,p,h=>by
  unfold shutV at h
  split at h
  ·rename_i heq;cases heq
  ·rename_i j q n r' heq
   cases heq
   split at h
   ·rename_i q' ys t ho
    cases hk:Nat.beq q q'&&Nat.beq n ys.length with
    | false=>rw [hk] at h;cases h
    | true =>
     rw [hk] at h
     simp only [cond_true] at h
     split at h
     ·rename_i p0 hp
      cases h
      obtain ⟨h1,h2,h3⟩:=shutV_inv hp
      simp only [Bool.and_eq_true] at hk
      have hq:=Nat.eq_of_beq_eq_true hk.1
      have hn:=Nat.eq_of_beq_eq_true hk.2
      subst hq hn
      have e:shV ob (.osl j q 0 ys.length)=.sl ys:=by simp only [shV,ho]
      refine ⟨by rw [List.map_cons,e,←h1],fun i hi=>?_,fun v hv=>?_⟩
      ·rcases List.mem_cons.1 hi with rfl|hi
       ·exact ⟨_,_,_,ho⟩
       ·exact h2 i hi
      ·rcases List.mem_cons.1 hv with rfl|hv
       ·rw [e];exact ⟨rfl,.inr ⟨j,q,ys,t,rfl,ho,rfl,by simp⟩⟩
       ·obtain ⟨k1,k2⟩:=h3 v hv
        refine ⟨k1,k2.imp id ?_⟩
        rintro ⟨j',q',ys',t',e1,e2,e3,e4⟩
        exact ⟨j',q',ys',t',e1,e2,e3,List.mem_cons_of_mem _ e4⟩
     ·cases h
   ·cases h
  ·rename_i x r' hx heq
   cases heq
   cases hk:okElem 1 v with
   | false=>rw [hk] at h;cases h
   | true =>
    rw [hk] at h
    simp only [cond_true] at h
    split at h
    ·rename_i p0 hp
     cases h
     obtain ⟨h1,h2,h3⟩:=shutV_inv hp
     have e:shV ob v=v:=by
      unfold shV
      split
      ·exact absurd rfl (hx _ _ _)
      ·rfl
     refine ⟨by rw [List.map_cons,e,←h1],h2,fun u hu=>?_⟩
     rcases List.mem_cons.1 hu with rfl|hu
     ·rw [e];exact ⟨hk,.inl rfl⟩
     ·exact h3 u hu
    ·cases h
def mapE (f:V→V) (e:List (Nat×V)):List Nat→List (Nat×V)
 | []=>[]
 | n::r=>match find n e with
  | some v=>(n,f v)::mapE f e r
  | none=>mapE f e r
theorem find_mapE {f:V→V} {e:List (Nat×V)} {s:Nat}:∀{l:List Nat},find s (mapE f e l)=bif mem s l then (find s e).map f else none
 | []=>rfl
 | n::r=>by
  unfold mapE
  have ih:=find_mapE (f:=f) (e:=e) (s:=s) (l:=r)
  by_cases hs:s=n
  ·subst hs
   have hb:Nat.beq s s=true:=Nat.beq_refl s
   cases hf:find s e with
   | none =>
    simp only [hf] at ih ⊢
    rw [ih];simp
   | some v=>simp [find,mem,hb]
  ·have hb:Nat.beq s n=false:=beq_no hs
   cases hf:find n e with
   | none=>simp only [ih,mem,hb,Bool.false_or]
   | some v=>simp only [find,hb,cond_false,ih,mem,Bool.false_or]
def slotsO:List Opd→List Nat
 | []=>[]
 | .t n::r=>n::slotsO r
 | _::r=>slotsO r
theorem slotsO_mem {n:Nat}:∀{xs:List Opd},Opd.t n∈xs→mem n (slotsO xs)=true
 | x::r,h=>by
  rcases List.mem_cons.1 h with rfl|h
  ·simp [slotsO,mem,Nat.beq_refl]
  ·have:=slotsO_mem h
   cases x<;>simp [slotsO,mem,this]
theorem mem_slotsO {n:Nat}:∀{xs:List Opd},mem n (slotsO xs)=true→Opd.t n∈xs
 | [],h=>by cases h
 | x::r,h=>by
  cases x with
  | t m =>
   simp only [slotsO,mem,Bool.or_eq_true] at h
   rcases h with h|h
   ·rw [Nat.eq_of_beq_eq_true h];simp
   ·exact List.mem_cons_of_mem _ (mem_slotsO h)
  | c v=>exact List.mem_cons_of_mem _ (mem_slotsO h)
  | f m=>exact List.mem_cons_of_mem _ (mem_slotsO h)
def Gh.shutRs (g:Gh) (js:List Nat):Gh:={ g with S:=fun b=>g.S b∨∃j∈js,¬g.nil j∧b=g.ρ j }
theorem StepOK.shutRs {js:List Nat} (hH:HRel P g w σ.heap) (hj:∀j∈js,∃q ys t,find j σ.heap=some (.arr q ys t)):StepOK g σ.heap w ⟨.any,js,[]⟩ (g.shutRs js) w:=by
 refine ⟨rfl,rfl,rfl,Nat.le_refl _,fun _ _ _=>rfl,fun _ h=>.inl h,fun b hb=>?_,fun b hb=>?_,fun i _=>⟨rfl,rfl,rfl,Iff.rfl⟩,fun _ _ h=>by simp at h,fun _ _ h=>by simp at h,fun _ _ _ _ h=>by simp at h,fun _ _ h=>by simp at h⟩
 ·rcases hb with hb|⟨j,h1,h2,h3⟩
  ·exact .inl hb
  ·obtain ⟨q,ys,t,h4⟩:=hj j h1
   exact .inr (.inr ⟨j,_,by simp [Eff.ids,h1],h4,h2,h3.symm⟩)
 ·rcases hb with hb|⟨j,h1,h2,h3⟩
  ·exact hH.lt b hb
  ·obtain ⟨q,ys,t,h4⟩:=hj j h1
   rcases hH.obj _ _ h4 with ⟨h5,_⟩|⟨_,_,⟨cur,e,fz,h6,_⟩,_⟩
   ·exact absurd h5 h2
   ·rw [h3];exact (Array.getElem?_eq_some_iff.1 h6).1
theorem Rd.mono_S {S S':Nat→Prop} {v:Value} {x:V} (h:Rd S w v x) (hs:∀b,S b→S' b):Rd S' w v x:=h.mono (fun _ _=>rfl) hs
theorem s_lss {xs:List Opd} (hok:mapOK P .lss xs o.op=true) (hR:Rel P c g σ a w) (hob:∀id o,ob id=some o→find id σ.heap=some o) {d:Nat}
  (h:sMap .lss d (xs.map (·.ev σ.env)) ob K L) (hF:Fin o c g σ a w K L K'):o.wp P a w K' Q':=by
 obtain ⟨hok1,hall⟩:(MIns.lsl 1 xs).ok P o.op=true∧xs.all Opd.isT=true:=by
  cases ho:o.op<;>rw [ho] at hok<;>try (simp [mapOK] at hok;done)
  simp only [mapOK] at hok
  rw [Bool.and_eq_true] at hok
  exact hok
 unfold sMap at h
 simp only at h
 cases hs:shutV ob (xs.map (·.ev σ.env)) with
 | none=>rw [hs] at h;exact h.elim
 | some p =>
  rw [hs] at h
  obtain ⟨ys,js⟩:=p
  simp only at h
  obtain ⟨h1,h2,h3⟩:=shutV_inv hs
  simp only at h1 h2
  have hj:∀j∈js,∃q ys t,find j σ.heap=some (.arr q ys t):=fun j hj=>by
   obtain ⟨q,ys,t,h⟩:=h2 j hj
   exact ⟨q,ys,t,hob _ _ h⟩
  have hS:=StepOK.shutRs (σ:=σ) hR.hp hj
  have hR2:Rel P c (g.shutRs js) ⟨σ.env,(⟨.any,js,[]⟩:Eff).heap σ.heap⟩ a w:=hR.step (d:=none) (v:=undef) (fun n h=>by cases h) hS (fun i o' h=>by simp at h) (.any _)
  have hR1:Rel P c (g.shutRs js) ⟨mapE (shV ob) σ.env (slotsO xs),(⟨.any,js,[]⟩:Eff).heap σ.heap⟩ a w:=by
   refine ⟨hR2.size,hR2.dfr,fun s x hx=>?_,hR2.hp,hR2.fr⟩
   simp only [find_mapE] at hx
   cases hm:mem s (slotsO xs) with
   | false=>rw [hm] at hx;cases hx
   | true =>
    rw [hm] at hx
    simp only [cond_true] at hx
    cases hf:find s σ.env with
    | none=>rw [hf] at hx;cases hx
    | some v =>
     rw [hf] at hx
     simp only [Option.map_some,Option.some.injEq] at hx
     subst hx
     obtain ⟨q1,q2⟩:=hR2.env s v hf
     refine ⟨q1,?_⟩
     have hv:v∈xs.map (·.ev σ.env):=List.mem_map.2 ⟨.t s,mem_slotsO hm,by simp only [Opd.ev,get_find,hf,Option.getD_some]⟩
     obtain ⟨_,k2⟩:=h3 v hv
     rcases k2 with k2|⟨j,q,zs,t,rfl,k3,k4,k5⟩
     ·rw [k2];exact q2
     ·rw [k4]
      obtain ⟨_,hvr⟩:=hR.env s _ hf
      refine .rd ((osl_shut (hR.hp.obj _ _ (hob _ _ k3)) hvr rfl).mono_S ?_)
      rintro b (hb|⟨hb1,hb2⟩)
      ·exact .inl hb
      ·exact .inr ⟨j,k5,hb1,hb2⟩
  have hev:xs.map (·.ev (mapE (shV ob) σ.env (slotsO xs)))=ys:=by
   rw [h1,List.map_map]
   refine List.map_congr_left fun x hx=>?_
   have hx':=List.all_eq_true.1 hall x hx
   cases x with
   | c v=>cases hx'
   | f m=>cases hx'
   | t n =>
    simp only [Opd.ev,get_find,find_mapE,slotsO_mem hx,cond_true,Function.comp]
    cases find n σ.env<;>rfl
  have hel:ys.all (okElem 1)=true:=by
   rw [h1]
   refine List.all_eq_true.2 fun y hy=>?_
   obtain ⟨v,hv,rfl⟩:=List.mem_map.1 hy
   exact (h3 v hv).1
  refine s_lsl (k:=1) (K:=fun e=>e=evl (.sl ys)) (L:=fun _=>False) (d0:=0) (ob:=ob) hok1 hR1 ?_ fun eff he g' v w' k1 k2 k3=>?_
  ·simp only [hev]
   unfold stepV
   simp only [hel,cond_true]
  ·rcases he with rfl|he
   ·refine hF ⟨.sl ys,js,[]⟩ (.inl h) g' v w' ⟨k1.os,k1.tape,k1.output,k1.size,fun b hb _=>k1.keep b hb fun id o h=>by simp [evl,Eff.ids] at h,fun b hb=>k1.sup b (.inl hb),fun b hb=>?_,k1.slt,fun id _=>k1.agree id fun o h=>by simp [evl] at h,fun _ _ h=>by simp at h,fun _ _ h=>by simp at h,fun _ _ _ _ h=>by simp at h,fun _ _ h=>by simp at h⟩ (fun _ _ h=>by simp at h) k3
    rcases k1.sub b hb with hb|hb|⟨id,o1,hb,_⟩
    ·rcases hb with hb|⟨j,q1,q2,q3⟩
     ·exact .inl hb
     ·obtain ⟨q,zs,t,q4⟩:=hj j q1
      exact .inr (.inr ⟨j,_,by simp [Eff.ids,q1],q4,q2,q3.symm⟩)
    ·exact .inr (.inl hb)
    ·simp [evl,Eff.ids] at hb
   ·exact he.elim
theorem nils_val {v:Value} (h:VR g w v .nils):v=.slice none 0 0:=by
 cases h with
 | rd h=>cases h;rfl
theorem sl_val {v:Value} {ys:List V} (h:VR g w v (.sl ys)):∃p l q,v=.slice p l q∧(p=none→ys=[]):=by
 cases h with
 | rd h=>cases h<;>exact ⟨_,_,_,rfl,fun h=>by first|rfl|cases h⟩
theorem s_isn {ng:Bool} {xs:List Opd} (hok:mapOK P (.isn ng) xs o.op=true) (hR:Rel P c g σ a w) {d:Nat}
  (h:sMap (.isn ng) d (xs.map (·.ev σ.env)) ob K L) (hF:Fin o c g σ a w K L K'):o.wp P a w K' Q':=by
 obtain ⟨x,x',b,t,u,na,nb,e,rfl,ho,hx,hbn,hu⟩:∃x x' b t u na nb e,xs=[x]∧o.op=.binOp b t x' (.const (.slice none na nb)) u∧x.ok x'=true∧(b=.eql∧ng=false∨b=.neq∧ng=true)∧P.underlying t=some (.slice e):=by
  cases ho:o.op<;>rw [ho] at hok<;>try (simp [mapOK] at hok;done)
  rename_i b t x' y' u
  simp only [mapOK,Bool.and_eq_true] at hok
  obtain ⟨⟨⟨h1,h2⟩,h3⟩,h4⟩:=hok
  split at h1
  ·split at h3
   ·split at h4
    ·rename_i na nb _ e he
     refine ⟨_,_,_,_,_,na,nb,e,rfl,rfl,h1,?_,he⟩
     split at h2
     ·exact .inl ⟨rfl,by simpa using h2⟩
     ·exact .inr ⟨rfl,h2⟩
     ·cases h2
    ·cases h4
   ·cases h3
  ·cases h1
 have vx:=Opd.vr hR hx
 have run:∀p l q,a.eval x'=.slice p l q→(execOp a.eval o).run P w=.ok (.value (.bool (bif ng then !p.isNone else p.isNone))) w:=fun p l q e=>by
  have h1:=Lib.run_eql_slice_nil (P:=P) w t _ p l q na nb hu
  have ec:a.eval (.const (.slice none na nb))=.slice none na nb:=rfl
  rcases hbn with ⟨rfl,rfl⟩|⟨rfl,rfl⟩
  ·simp [execOp,ho,e,ec,eqGuard_at_slice,h1]
  ·have h2:(binOp .neq t (.slice p l q) (.slice none na nb)).run P w=.ok (.bool (!p.isNone)) w:=by
    have h3:(Op.equal t (.slice p l q) (.slice none na nb)).run P w=.ok p.isNone w:=by
     have h1':=h1
     simp only [binOp,Sem.run_bind,Sem.run_pure] at h1'
     cases hq:(Op.equal t (.slice p l q) (.slice none na nb)).run P w<;>rw [hq] at h1'<;>simp [Result.andThen] at h1'
     obtain ⟨rfl,rfl⟩:=h1';rfl
    simp [binOp,h3]
   simp [execOp,ho,e,ec,eqGuard_at_slice,h2]
 simp only [List.map_cons,List.map_nil,sMap] at h
 have fin:∀b:Bool,(execOp a.eval o).run P w=.ok (.value (.bool b)) w→L (evl (.bool b))→o.wp P a w K' Q':=fun b hr hl=>fin_val hR hF hr (.inr hl) (.rd (.bool b))
 split at h
 ·rename_i hev
  rw [hev] at vx
  refine fin _ (run _ _ _ (nils_val vx)) ?_
  cases ng<;>exact h
 ·rename_i ys hev
  rw [hev] at vx
  obtain ⟨p,l,q,e,hp⟩:=sl_val vx
  refine fin _ (run _ _ _ e) ?_
  cases p with
  | none=>have:=h.1 (hp rfl);cases ng<;>exact this
  | some p=>have:=h.2;cases ng<;>exact this
 ·rename_i i1 i2 i3 n hev
  rw [hev] at vx
  obtain ⟨p,l,q,e,hp⟩:=osl_val vx
  refine fin _ (run _ _ _ e) ?_
  cases p with
  | none=>have:=h.1 (hp rfl);cases ng<;>exact this
  | some p=>have:=h.2;cases ng<;>exact this
 ·exact h.elim
theorem s_tab {i:Nat} {xs:List Opd} (hok:mapOK P (.tab i) xs o.op=true) (hR:Rel P c g σ a w) {d:Nat}
  (h:sMap (.tab i) d (xs.map (·.ev σ.env)) ob K L) (hF:Fin o c g σ a w K L K'):o.wp P a w K' Q':=by
 obtain ⟨t,q,dd,rfl,ho,hdd,hg,ht⟩:∃t q dd,xs=[]∧o.op=.load t (.global q)∧tabs0[i]?=some dd∧P.globalNamed dd.1=some q∧aggN P t=some (some dd.2.2.length):=by
  cases ho:o.op<;>rw [ho] at hok<;>try (simp [mapOK] at hok;done)
  rename_i t y
  cases y<;>try (simp [mapOK] at hok;done)
  rename_i q
  simp only [mapOK,Bool.and_eq_true] at hok
  obtain ⟨h1,h2⟩:=hok
  split at h1
  ·split at h2
   ·rename_i dd hdd
    simp only [Bool.and_eq_true,decide_eq_true_eq] at h2
    exact ⟨t,q,dd,rfl,rfl,hdd,h2.1,h2.2⟩
   ·cases h2
  ·cases h1
 simp only [List.map_nil] at h
 have h':K (evl (.agg (dd.2.2.map (V.int dd.2.1)))):=by
  unfold sMap at h
  simp only [hdd] at h
  exact h
 have htab:∀w',Keep g.S w w'→Lib.TabIs P w' dd.1 dd.2.1 dd.2.2:=fun w' hk=>(hR.hp.tabs w' hk).1 dd (List.mem_of_getElem? hdd) (by rw [hg];rfl)
 have h0:=htab w fun _ _=>rfl
 unfold Lib.TabIs World.var? at h0
 rw [hg] at h0
 simp only [Option.bind_some] at h0
 split at h0
 case h_2=>cases h0
 rename_i cs e fz hcs
 have hcs':cs=(dd.2.2.map fun z=>Value.int dd.2.1 z).toArray:=Option.some.inj h0
 subst hcs'
 have hrng:∀z∈dd.2.2,inR dd.2.1 z:=by
  have:∀d∈tabs0,∀z∈d.2.2,inR d.2.1 z:=by
   intro d hd
   simp only [tabs0,List.mem_cons,List.not_mem_nil,or_false] at hd
   rcases hd with rfl|rfl|rfl<;>simp [inR,IntKind.min,IntKind.max,IntKind.signed,IntKind.bits]
  exact this dd (List.mem_of_getElem? hdd)
 obtain ⟨u,z,hrun,hz,hv⟩:=run_loadVar_part (P:=P) (g:=g) (w:=w) ht (o':=0) (off:=0) (cs:=dd.2.2.map (V.int dd.2.1)) (Kp:=fun x=>x=V.agg (dd.2.2.map (V.int dd.2.1))) hcs (by simp) (fun j x hj=>by
  rw [List.getElem?_map] at hj
  cases hz:dd.2.2[j]? with
  | none=>rw [hz] at hj;cases hj
  | some n =>
   rw [hz] at hj;cases hj
   have hlt:=(List.getElem?_eq_some_iff.1 hz).1
   have e1:((dd.2.2.map fun z=>Value.int dd.2.1 z).toArray.getD (0+j) undef)=.int dd.2.1 n:=by
    simp [Array.getD_eq_getD_getElem?,hlt,(List.getElem?_eq_some_iff.1 hz).2]
   rw [e1]
   exact .rd (.int _ _ (hrng n (List.mem_of_getElem? hz)))) (by
  simp only [part,List.length_map]
  have:Nat.ble (0+dd.2.2.length) dd.2.2.length=true:=by simp
  rw [this]
  simp only [cond_true,List.drop_zero]
  rw [←List.length_map (f:=V.int dd.2.1),List.take_length])
 subst hz
 refine fin_val hR hF (v:=u) ?_ (.inl h') hv
 have ec:a.eval (.global q)=.pointer (some ⟨q,0,none⟩):=rfl
 simp [execOp,ho,Instr.loadAt,ec,Instr.sureAddr] at hrun ⊢
 simp [hrun]
theorem s_del {kd:KD} {xs:List Opd} (hok:mapOK P (.del kd) xs o.op=true) (hR:Rel P c g σ a w) (hob:∀id o,ob id=some o→find id σ.heap=some o) {d:Nat}
  (h:sMap (.del kd) d (xs.map (·.ev σ.env)) ob K L) (hF:Fin o c g σ a w K L K'):o.wp P a w K' Q':=by
 obtain ⟨x,k,cl,t,t2,x',k',rfl,ho,hcl,hargs,hts,hx,hk,hm⟩:∃x k cl t t2 x' k',xs=[x,k]∧o.op=.call cl∧cl.callee=.builtin .delete∧cl.args=#[x',k']∧cl.argTypes=#[t,t2]∧x.ok x'=true∧k.ok k'=true∧isMap P t (some kd) none=true:=by
  cases ho:o.op<;>rw [ho] at hok<;>try (simp [mapOK] at hok;done)
  rename_i cl
  obtain ⟨callee,args,ts⟩:=cl
  cases callee<;>try (simp [mapOK] at hok;done)
  rename_i b
  cases b<;>try (simp [mapOK] at hok;done)
  simp only [mapOK] at hok
  split at hok
  ·rename_i xx k x' k' t t2 he1 he2
   simp only [Bool.and_eq_true] at hok
   exact ⟨xx,k,_,t,t2,x',k',rfl,rfl,rfl,Array.toList_inj.1 (by simpa using he1),Array.toList_inj.1 (by simpa using he2),hok.1.1,hok.1.2,hok.2⟩
  ·cases hok
 obtain ⟨kt,et,hu,hkd,_⟩:=isMap_inv hm
 have hd:=hkd kd rfl
 have vx:=Opd.vr hR hx
 have vk:=Opd.vr hR hk
 simp only [List.map_cons,List.map_nil] at h
 unfold sMap at h
 split at h<;>try (rename_i heq;simp at heq;done)
 all_goals try (rename_i e1 e2;cases e1;done)
 case h_21=>exact h.elim
 rename_i kd1 id k1 e1 e2
 cases e1
 simp only [List.cons.injEq,and_true] at e2
 obtain ⟨e2,e3⟩:=e2
 rw [e2] at vx
 subst e3
 split at h
 case h_2=>exact h.elim
 rename_i kd' es hobj
 cases hkk:kd.is (k.ev σ.env)&&kd'.is (k.ev σ.env) with
 | false=>rw [hkk] at h;exact h.elim
 | true =>
  rw [hkk] at h
  simp only [Bool.and_eq_true] at hkk
  obtain ⟨hk1,hk2⟩:=hkk
  have:=KD.same hk1 hk2;subst this
  have hfd:=hob _ _ hobj
  obtain ⟨hnn,ents,clock,hb,he,hb1,hb2⟩:=hR.hp.obj _ _ hfd
  have hrk:=vk.sc_rd (KD.sc hk1)
  have hck:=fun e=>run_checkKey' (w:=w) hd hk1 hrk e
  have hxe:=vx.omap_inv
  have hlt:g.ρ id<w.heap.size:=(Array.getElem?_eq_some_iff.1 hb).1
  have fin:∀ents',(Builtin.delete_ #[t,t2] o.type #[a.eval x',a.eval k']).run P w=.ok (.tuple #[]) { w with heap:=w.heap.setIfInBounds (g.ρ id) (.map ents' clock) } →
    (∀w':World,Keep g.S w w'→Ents g.S w' kd ents'.toList (mdel (k.ev σ.env) es))→(∀ent∈ents'.toList,ent.born<clock)→(ents'.toList.map (·.born)).Nodup→o.wp P a w K' Q':=by
   intro ents' hrun q1 q2 q3
   have hother:∀b,b≠g.ρ id→(w.heap.setIfInBounds (g.ρ id) (.map ents' clock))[b]?=w.heap[b]?:=fun b hb=>by simp [Ne.symm hb]
   have hkeep:Keep g.S w { w with heap:=w.heap.setIfInBounds (g.ρ id) (.map ents' clock) }:=Keep.upd hR.hp hfd hnn hother
   refine Fin.mk' hF h (v:=.tuple #[]) (w':={ w with heap:=w.heap.setIfInBounds (g.ρ id) (.map ents' clock) }) ?_ (StepOK.upd _ id _ _ hR.hp hfd hnn rfl rfl rfl (by simp) hother ?_) (Fresh.upd _) (.tup _ _ rfl fun i c hc=>by simp at hc)
   ·simp [execOp,ho,resolve,hcl,hargs,hts,invoke,builtin,hrun]
   ·exact ⟨hnn,ents',clock,by simp [hlt],q1 _ hkeep,q2,q3⟩
  rcases find_ents hk1 hrk 0 he with ⟨h1,_,_,h4,h5⟩|⟨j,e,kv,h1,h2,h3,h4,_,_,h7⟩
  ·have hfk:(Instr.findKey kt (a.eval k') ents.toList).run P w=.ok none w:=MapKept.run_findKey hd h1
   refine fin ents ?_ (fun w' hw=>by rw [h4];exact he.mono hw fun _ h=>h) hb1 hb2
   rw [hxe]
   simp [Builtin.delete_,run_underlying hu,MapKept.run_getObj_map hb,hck,hfk,MapKept.run_setObj_map _ hb,Result.andThen]
  ·have hfk:(Instr.findKey kt (a.eval k') ents.toList).run P w=.ok (some (0+j,e.val)) w:=MapKept.run_findKey hd h1
   have hjl:j<ents.size:=by simpa using (List.getElem?_eq_some_iff.1 h2).1
   have htl:(ents.eraseIdxIfInBounds j).toList=ents.toList.eraseIdx j:=by
    unfold Array.eraseIdxIfInBounds
    rw [dif_pos hjl,Array.toList_eraseIdx]
   refine fin (ents.eraseIdxIfInBounds j) ?_ (fun w' hw=>by rw [h7,htl];exact (he.mono hw fun _ h=>h).erase j) (fun ent hm=>?_) ?_
   ·rw [hxe]
    simp only [Nat.zero_add] at hfk
    simp [Builtin.delete_,run_underlying hu,MapKept.run_getObj_map hb,hck,hfk,MapKept.run_setObj_map _ hb,Result.andThen]
   ·rw [htl] at hm;exact hb1 ent (List.mem_of_mem_eraseIdx hm)
   ·rw [htl];exact ((List.eraseIdx_sublist _ _).map _).nodup hb2
theorem s_mlen {xs:List Opd} (hok:mapOK P .len xs o.op=true) (hR:Rel P c g σ a w) (hob:∀id o,ob id=some o→find id σ.heap=some o) {d:Nat}
  (h:sMap .len d (xs.map (·.ev σ.env)) ob K L) (hF:Fin o c g σ a w K L K'):o.wp P a w K' Q':=by
 obtain ⟨x,cl,t,x',rfl,ho,hcl,hargs,hts,hx,hm⟩:∃x cl t x',xs=[x]∧o.op=.call cl∧cl.callee=.builtin .len∧cl.args=#[x']∧cl.argTypes=#[t]∧x.ok x'=true∧isMap P t none none=true:=by
  cases ho:o.op<;>rw [ho] at hok<;>try (simp [mapOK] at hok;done)
  rename_i cl
  obtain ⟨callee,args,ts⟩:=cl
  cases callee<;>try (simp [mapOK] at hok;done)
  rename_i b
  cases b<;>try (simp [mapOK] at hok;done)
  simp only [mapOK] at hok
  split at hok
  ·rename_i xx x' t he1 he2
   simp only [Bool.and_eq_true] at hok
   exact ⟨xx,_,t,x',rfl,rfl,rfl,Array.toList_inj.1 (by simpa using he1),Array.toList_inj.1 (by simpa using he2),hok.1,hok.2⟩
  ·cases hok
 obtain ⟨kt,et,hu,_,_⟩:=isMap_inv hm
 have vx:=Opd.vr hR hx
 simp only [sMap,List.map_cons,List.map_nil] at h
 have fin:∀(n:Nat),(Builtin.len_ #[t] o.type #[a.eval x']).run P w=.ok (goInt n) w→(n:Int)≤9223372036854775807→K (evl (.int .i64 n))→o.wp P a w K' Q':=by
  intro n hrun hm hk
  refine fin_val hR hF (v:=goInt n) ?_ (.inl hk) (.rd (.int _ _ ?_))
  ·simp [execOp,ho,resolve,hcl,hargs,hts,invoke,builtin,hrun]
  ·rw [rng_iff];simp only [rng];omega
 split at h
 ·rename_i hc
  rw [hc] at vx
  exact fin 0 (by simp [vx.nilm_inv,Builtin.len_,run_underlying hu]) (by omega) h
 ·rename_i x0 hne
  obtain ⟨b,kd',es,ents,clock,e1,hb,he,hK⟩:=ments_inv hR.hp hob vx h
  refine fin es.length ?_ hK.1 hK.2
  have hl:ents.size=es.length:=by simpa using he.len
  simp [e1,Builtin.len_,run_underlying hu,MapKept.run_getObj_map hb,hl]
theorem s_rng {xs:List Opd} (hok:mapOK P .rng xs o.op=true) (hR:Rel P c g σ a w) {d:Nat} (hcl:Clean c σ d)
  (h:sMap .rng d (xs.map (·.ev σ.env)) ob K L) (hF:Fin o c g σ a w K L K'):o.wp P a w K' Q':=by
 obtain ⟨x,t,x',rfl,ho,hx,hm⟩:∃x t x',xs=[x]∧o.op=.range t x'∧x.ok x'=true∧isMap P t none none=true:=by
  cases ho:o.op<;>rw [ho] at hok<;>try (simp [mapOK] at hok;done)
  simp only [mapOK,Bool.and_eq_true] at hok
  obtain ⟨h1,h3⟩:=hok
  split at h1
  ·exact ⟨_,_,_,rfl,rfl,h1,h3⟩
  ·cases h1
 obtain ⟨kt,et,hu,_,_⟩:=isMap_inv hm
 have vx:=Opd.vr hR hx
 simp only [sMap,List.map_cons,List.map_nil] at h
 have fin:∀(it:Obj) (es:List (V×V)),(Instr.range t (a.eval x')).run P w=.ok (.pointer (some ⟨w.heap.size,0,none⟩)) (w.alloc it)→K ⟨.ptr d 0,[],[(d,.iter es none)]⟩ →
   (∀w':World,Keep g.S w w'→w'.heap[w.heap.size]?=some it→IterAt g.S w' w.heap.size es none)→o.wp P a w K' Q':=by
  intro it es hrun hk q
  have hh:(w.alloc it).heap=w.heap.push it:=rfl
  have e1:(g.set d w.heap.size 0 0).ρ d=w.heap.size:=by simp [Gh.set]
  have e4:¬(g.set d w.heap.size 0 0).nil d:=by simp [Gh.set]
  refine Fin.mk' hF hk (v:=.pointer (some ⟨w.heap.size,0,none⟩)) (w':=w.alloc it) ?_ (StepOK.alloc _ d 0 0 _ it hR.hp.lt rfl rfl rfl hh ?_) (Fresh.of_clean hcl) ?_
  ·simp [execOp,ho,hrun]
  ·refine ⟨e4,?_⟩
   rw [e1]
   exact q _ (Keep.push hR.hp.lt hh) (by rw [hh];simp)
  ·have:=VR.ptr (g:=g.set d w.heap.size 0 0) (w:=w.alloc it) d 0
   rw [e1] at this
   exact this
 split at h
 ·rename_i hc
  rw [hc] at vx
  exact fin (.mapIter none 0 #[] 0) [] (by rw [vx.nilm_inv];simp [Instr.range,run_underlying hu]) h fun w' _ hw=>.inl ⟨_,_,_,hw,rfl,rfl⟩
 ·rename_i kd es hc
  rw [hc] at vx
  generalize hev:a.eval x'=ev at vx
  cases vx with
  | rd hr =>
   cases hr with
   | smap b _ ents clock _ hS hg hl hk hb hn hr1 hr2 =>
    refine fin (.mapIter (some b) clock #[] clock) es ?_ h fun w' hk' hw=>?_
    ·rw [hev];exact run_range_map w t kt et b ents clock hu hg
    ·have hf:(ents.toList.filter fun e=>!(#[]:Array Nat).contains e.born)=ents.toList:=List.filter_eq_self.2 fun x _=>by simp
     refine .inr ⟨b,clock,#[],ents,hw,hS,(hk' b hS).trans hg,hb,hn,by rw [hf];simpa using hl,fun i ent kv hi hj=>?_,fun kv h=>by cases h⟩
     rw [hf] at hi
     exact ⟨(hr1 i ent kv (by simpa using hi) hj).mono hk' fun _ h=>h,(hr2 i ent kv (by simpa using hi) hj).mono hk' fun _ h=>h⟩
 ·exact h.elim
theorem s_nxt {xs:List Opd} (hok:mapOK P .nxt xs o.op=true) (hR:Rel P c g σ a w) (hob:∀id o,ob id=some o→find id σ.heap=some o) {d:Nat}
  (h:sMap .nxt d (xs.map (·.ev σ.env)) ob K L) (hF:Fin o c g σ a w K L K'):o.wp P a w K' Q':=by
 obtain ⟨x,x',rfl,ho,hx⟩:∃x x',xs=[x]∧o.op=.next x' false∧x.ok x'=true:=by
  cases ho:o.op<;>rw [ho] at hok<;>try (simp [mapOK] at hok;done)
  simp only [mapOK,Bool.and_eq_true,Bool.not_eq_true'] at hok
  obtain ⟨h1,h3⟩:=hok
  subst h3
  split at h1
  ·exact ⟨_,_,rfl,rfl,h1⟩
  ·cases h1
 have vx:=Opd.vr hR hx
 simp only [List.map_cons,List.map_nil] at h
 unfold sMap at h
 split at h<;>try (rename_i heq;simp at heq;done)
 all_goals try (rename_i e1 e2;cases e1;done)
 case h_21=>exact h.elim
 rename_i id e1 e2
 simp only [List.cons.injEq,and_true] at e2
 rw [e2] at vx
 split at h
 case h_2=>exact h.elim
 rename_i rem cur hobj
 obtain ⟨hk1,hk2⟩:=h
 have hfd:=hob _ _ hobj
 obtain ⟨hnn,hit⟩:=hR.hp.obj _ _ hfd
 have hxe:=vx.ptr_inv
 rcases hit with ⟨q1,q2,q3,hb,rfl,_⟩|⟨m,clock,seen,ents,hb,hS,hm,hold,hnd,hl,hrd,_⟩
 ·refine Fin.mk'L hF (hk1 rfl) (v:=.tuple #[.bool false]) (w':=w) ?_ (StepOK.upd _ id _ _ hR.hp hfd hnn rfl rfl rfl rfl (fun _ _=>rfl) ⟨hnn,.inl ⟨_,_,_,hb,rfl,rfl⟩⟩) (Fresh.upd _) ?_
  ·have:=run_next_nil (P:=P) (ty:=o.type) hb
   simp [execOp,ho,hxe,this]
  ·refine .tup _ _ rfl fun i c hc=>?_
   match i,hc with
   | 0,hc=>simp at hc;subst hc;exact .rd (.bool _)
   | n+1,hc=>simp at hc
 ·rcases run_next (P:=P) (ty:=o.type) hb hm hold with ⟨h0,hrun⟩|⟨i,e,w1,hi,p1,p2,p3,p4,hrun⟩
  ·have hr0:rem=[]:=List.eq_nil_of_length_eq_zero (by rw [←hl,h0];rfl)
   subst hr0
   refine Fin.mk'L hF (hk1 rfl) (v:=.tuple #[.bool false]) (w':=w) ?_ (StepOK.upd _ id _ _ hR.hp hfd hnn rfl rfl rfl rfl (fun _ _=>rfl) ⟨hnn,.inr ⟨m,clock,seen,ents,hb,hS,hm,hold,hnd,hl,hrd,fun kv h=>by cases h⟩⟩) (Fresh.upd _) ?_
   ·simp [execOp,ho,hxe,hrun]
   ·refine .tup _ _ rfl fun i c hc=>?_
    match i,hc with
    | 0,hc=>simp at hc;subst hc;exact .rd (.bool _)
    | n+1,hc=>simp at hc
  ·have hlt:i<rem.length:=by rw [←hl];exact (List.getElem?_eq_some_iff.1 hi).1
   have hkv:rem[i]?=some rem[i]:=List.getElem?_eq_getElem hlt
   obtain ⟨r1,r2⟩:=hrd i e _ hi hkv
   have hother:∀b,b≠g.ρ id→(w1.heap.setIfInBounds (g.ρ id) (.mapIter (some m) clock (seen.push e.born) clock))[b]?=w.heap[b]?:=fun b hb=>by rw [p1];simp [Ne.symm hb]
   have hkeep:Keep g.S w { w1 with heap:=w1.heap.setIfInBounds (g.ρ id) (.mapIter (some m) clock (seen.push e.born) clock) }:=Keep.upd hR.hp hfd hnn hother
   have hlt2:g.ρ id<w.heap.size:=(Array.getElem?_eq_some_iff.1 hb).1
   refine Fin.mk'L hF (hk2 i _ hkv) (v:=.tuple #[.bool true,e.key,e.val]) (w':={ w1 with heap:=w1.heap.setIfInBounds (g.ρ id) (.mapIter (some m) clock (seen.push e.born) clock) }) ?_
    (StepOK.upd _ id _ _ hR.hp hfd hnn p2 p4 p3 (by simp [p1]) hother ⟨hnn,.inr ⟨m,clock,seen.push e.born,ents,by simp [p1,hlt2],hS,(hkeep m hS).trans hm,hold,hnd,?_,?_,?_⟩⟩) (Fresh.upd _) ?_
   ·simp [execOp,ho,hxe,hrun]
   ·rw [left_push hnd hi,List.length_eraseIdx,List.length_eraseIdx,hl]
   ·intro j ent kv hj hq
    rw [left_push hnd hi,List.getElem?_eraseIdx] at hj
    rw [List.getElem?_eraseIdx] at hq
    split at hj
    ·rename_i hlt;rw [if_pos hlt] at hq
     exact ⟨(hrd j ent kv hj hq).1.mono hkeep fun _ h=>h,(hrd j ent kv hj hq).2.mono hkeep fun _ h=>h⟩
    ·rename_i hlt;rw [if_neg hlt] at hq
     exact ⟨(hrd (j+1) ent kv hj hq).1.mono hkeep fun _ h=>h,(hrd (j+1) ent kv hj hq).2.mono hkeep fun _ h=>h⟩
   ·intro kv hc
    cases hc
    exact ⟨e,(List.mem_filter.1 (List.mem_of_getElem? hi)).1,by simp,r1.mono hkeep fun _ h=>h,r2.mono hkeep fun _ h=>h⟩
   ·refine .tup _ _ rfl fun j c hc=>?_
    match j,hc with
    | 0,hc=>simp at hc;subst hc;exact .rd (.bool _)
    | 1,hc=>simp at hc;subst hc;exact .rd (r1.mono hkeep fun _ h=>h)
    | 2,hc=>simp at hc;subst hc;exact .rd (r2.mono hkeep fun _ h=>h)
    | n+3,hc=>simp at hc
theorem s_ent {xs:List Opd} (hok:mapOK P .ent xs o.op=true) (hR:Rel P c g σ a w) (hob:∀id o,ob id=some o→find id σ.heap=some o) {d:Nat}
  (h:sMap .ent d (xs.map (·.ev σ.env)) ob K L) (hF:Fin o c g σ a w K L K'):o.wp P a w K' Q':=by
 obtain ⟨x,x',rfl,ho,hx⟩:∃x x',xs=[x]∧o.op=.entry x'∧x.ok x'=true:=by
  cases ho:o.op<;>rw [ho] at hok<;>try (simp [mapOK] at hok;done)
  simp only [mapOK] at hok
  split at hok
  ·exact ⟨_,_,rfl,rfl,hok⟩
  ·cases hok
 have vx:=Opd.vr hR hx
 simp only [List.map_cons,List.map_nil] at h
 unfold sMap at h
 split at h<;>try (rename_i heq;simp at heq;done)
 all_goals try (rename_i e1 e2;cases e1;done)
 case h_21=>exact h.elim
 rename_i id e1 e2
 simp only [List.cons.injEq,and_true] at e2
 rw [e2] at vx
 split at h
 case h_2=>exact h.elim
 rename_i rem e hobj
 have hfd:=hob _ _ hobj
 obtain ⟨hnn,hit⟩:=hR.hp.obj _ _ hfd
 have hxe:=vx.ptr_inv
 rcases hit with ⟨q1,q2,q3,hb,_,hc⟩|⟨m,clock,seen,ents,hb,hS,hm,hold,hnd,hl,hrd,hcur⟩
 ·cases hc
 ·obtain ⟨ent,h1,h2,h3,h4⟩:=hcur e rfl
  have hf:ents.find? (·.born==ent.born)=some ent:=by rw [←Array.find?_toList];exact find_born ent ents.toList hnd h1
  have hrun:(Instr.entry (.pointer (some ⟨g.ρ id,0,none⟩))).run P w=.ok (.tuple #[ent.key,ent.val]) w:=by
   simp only [Instr.entry,getObj,Sem.run_bind,Sem.run,hb,hm,Result.andThen,h2,bne_self_eq_false,Bool.false_eq_true,if_false,hf]
   rfl
  refine fin_val hR hF (v:=.tuple #[ent.key,ent.val]) ?_ (.inl h) ?_
  ·simp [execOp,ho,hxe,hrun]
  ·refine .tup _ _ rfl fun j c hc=>?_
   match j,hc with
   | 0,hc=>simp at hc;subst hc;exact .rd h3
   | 1,hc=>simp at hc;subst hc;exact .rd h4
   | n+2,hc=>simp at hc
theorem run_max_int3 (ts:Array TypeId) (t:TypeId) (k k' k'':IntKind) (x y z:Int) (w:World):(Builtin.max_ ts t #[.int k x,.int k' y,.int k'' z]).run P w=.ok (.int k (max (max x y) z)) w:=by
 simp only [Builtin.max_,List.foldlM,Builtin.max2,Sem.run_bind,Sem.run_pure,Result.andThen_ok]
 congr 2
 rw [Int.max_def,Int.max_def]
 split<;>split<;>(try split)<;>(try split)<;>omega
theorem s_mx3 {xs:List Opd} (hok:mapOK P .mx3 xs o.op=true) (hR:Rel P c g σ a w) {d:Nat}
  (h:sMap .mx3 d (xs.map (·.ev σ.env)) ob K L) (hF:Fin o c g σ a w K L K'):o.wp P a w K' Q':=by
 obtain ⟨x,y,z,cl,u,v,t,rfl,ho,hcl,hargs,hx,hy,hz⟩:∃x y z cl u v t,xs=[x,y,z]∧o.op=.call cl∧cl.callee=.builtin .max∧cl.args=#[u,v,t]∧x.ok u=true∧y.ok v=true∧z.ok t=true:=by
  cases ho:o.op<;>rw [ho] at hok<;>try (simp [mapOK] at hok;done)
  rename_i cl
  obtain ⟨callee,args,ts⟩:=cl
  cases callee<;>try (simp [mapOK] at hok;done)
  rename_i b
  cases b<;>try (simp [mapOK] at hok;done)
  simp only [mapOK] at hok
  split at hok
  ·rename_i u v t he
   simp only [Bool.and_eq_true] at hok
   refine ⟨_,_,_,_,u,v,t,rfl,rfl,rfl,?_,hok.1.1,hok.1.2,hok.2⟩
   apply Array.toList_inj.1
   simpa using he
  ·cases hok
 have vx:=Opd.vr hR hx
 have vy:=Opd.vr hR hy
 have vz:=Opd.vr hR hz
 simp only [List.map_cons,List.map_nil] at h
 unfold sMap at h
 split at h<;>try (rename_i heq;simp at heq;done)
 all_goals try (rename_i e1 e2;cases e1;done)
 case h_21=>exact h.elim
 rename_i k p k' q k'' r e1 e2
 simp only [List.cons.injEq,and_true] at e2
 obtain ⟨e2,e3,e4⟩:=e2
 rw [e2] at vx;rw [e3] at vy;rw [e4] at vz
 by_cases hk:(kEq k k'&&kEq k k'')=true
 case neg=>simp [hk] at h
 simp only [hk,cond_true] at h
 simp only [Bool.and_eq_true] at hk
 have:=kEq_eq hk.1;subst this
 have:=kEq_eq hk.2;subst this
 obtain ⟨ex,rx⟩:=vx.int_inv
 obtain ⟨ey,ry⟩:=vy.int_inv
 obtain ⟨ez,rz⟩:=vz.int_inv
 refine fin_val hR hF (v:=.int k (max (max p q) r)) ?_ (.inl h) (.rd (.int _ _ ?_))
 ·simp [execOp,ho,resolve,hcl,hargs,invoke,builtin,ex,ey,ez,run_max_int3]
 ·rw [Int.max_def]
  split
  ·assumption
  ·rw [Int.max_def];split<;>assumption
theorem VR.ifc_inv {v:Value} {b:Bool} (h:VR g w v (.ifc b)):(v=.nilIface∧b=true)∨∃t p,v=.iface t p∧b=false:=by
 cases h with
 | rd h=>cases h with
  | ifcn=>exact .inl ⟨rfl,rfl⟩
  | ifcs t p=>exact .inr ⟨t,p,rfl,rfl⟩
theorem s_ifz {ng:Bool} {xs:List Opd} (hok:mapOK P (.ifz ng) xs o.op=true) (hR:Rel P c g σ a w) {d:Nat}
  (h:sMap (.ifz ng) d (xs.map (·.ev σ.env)) ob K L) (hF:Fin o c g σ a w K L K'):o.wp P a w K' Q':=by
 obtain ⟨x,x',b,t,u,ms,rfl,ho,hx,hbn,hu⟩:∃x x' b t u ms,xs=[x]∧o.op=.binOp b t x' (.const .nilIface) u∧x.ok x'=true∧(b=.eql∧ng=false∨b=.neq∧ng=true)∧P.underlying t=some (.interface ms):=by
  cases ho:o.op<;>rw [ho] at hok<;>try (simp [mapOK] at hok;done)
  rename_i b t x' y' u
  simp only [mapOK,Bool.and_eq_true] at hok
  obtain ⟨⟨⟨h1,h2⟩,h3⟩,h4⟩:=hok
  split at h1
  ·split at h3
   ·split at h4
    ·rename_i ms he
     refine ⟨_,_,_,_,_,ms,rfl,rfl,h1,?_,he⟩
     split at h2
     ·exact .inl ⟨rfl,by simpa using h2⟩
     ·exact .inr ⟨rfl,h2⟩
     ·cases h2
    ·cases h4
   ·cases h3
  ·cases h1
 have vx:=Opd.vr hR hx
 have hm:P.underlying t=some (.interface (P.methodsAt t)):=by
  rw [hu];simp [Program.methodsAt,hu]
 simp only [List.map_cons,List.map_nil] at h
 unfold sMap at h
 split at h<;>try (rename_i heq;simp at heq;done)
 all_goals try (rename_i e1 e2;cases e1;done)
 case h_21=>exact h.elim
 rename_i ng' b' e1 e2
 cases e1
 simp only [List.cons.injEq,and_true] at e2
 rw [e2] at vx
 have ec:a.eval (.const .nilIface)=.nilIface:=rfl
 rcases vx.ifc_inv with ⟨hv,rfl⟩|⟨tt,p,hv,rfl⟩
 ·rcases hbn with ⟨rfl,rfl⟩|⟨rfl,rfl⟩
  ·refine fin_val hR hF (v:=.bool true) ?_ (.inl h) (.rd (.bool _))
   simp [execOp,ho,hv,ec,eqGuard,run_eql_nil_nil _ t hm]
  ·refine fin_val hR hF (v:=.bool false) ?_ (.inl h) (.rd (.bool _))
   simp [execOp,ho,hv,ec,eqGuard,run_neq_nil_nil _ t hm]
 ·rcases hbn with ⟨rfl,rfl⟩|⟨rfl,rfl⟩
  ·refine fin_val hR hF (v:=.bool false) ?_ (.inl h) (.rd (.bool _))
   simp [execOp,ho,hv,ec,eqGuard,run_eql_held_nil _ t tt p hm]
  ·refine fin_val hR hF (v:=.bool true) ?_ (.inl h) (.rd (.bool _))
   simp [execOp,ho,hv,ec,eqGuard,run_neq_held_nil _ t tt p hm]
theorem VR.nilf_inv {v:Value} (h:VR g w v .nilf):v=.nilFunc:=by
 cases h with|rd h=>cases h;rfl
theorem run_eqf1 (d:Nat) {t:TypeId} {p1 p2 p3} (hu:P.underlying t=some (.func p1 p2 p3)) (f:Fn) (a b:Array Value):(Op.equalIn (d+1) t (.func f a b) .nilFunc).run P w=.ok false w:=by
 simp [Op.equalIn,run_underlying hu]
theorem run_eqf2 (d:Nat) {t:TypeId} {p1 p2 p3} (hu:P.underlying t=some (.func p1 p2 p3)):(Op.equalIn (d+1) t .nilFunc .nilFunc).run P w=.ok true w:=by
 simp [Op.equalIn,run_underlying hu]
theorem run_fn_eql {t:TypeId} {p1 p2 p3} (hu:P.underlying t=some (.func p1 p2 p3)) (f:Fn) (a b:Array Value):(Go.binOp .eql t (.func f a b) .nilFunc).run P w=.ok (.bool false) w:=by
 show (do pure (Value.bool (←Op.equalIn (9999+1) t (.func f a b) .nilFunc)):Sem Value).run P w=_
 simp only [Sem.run_bind,run_eqf1 9999 hu,Result.andThen_ok,Sem.run_pure]
theorem run_fn_neq {t:TypeId} {p1 p2 p3} (hu:P.underlying t=some (.func p1 p2 p3)) (f:Fn) (a b:Array Value):(Go.binOp .neq t (.func f a b) .nilFunc).run P w=.ok (.bool true) w:=by
 show (do pure (Value.bool (!(←Op.equalIn (9999+1) t (.func f a b) .nilFunc))):Sem Value).run P w=_
 simp only [Sem.run_bind,run_eqf1 9999 hu,Result.andThen_ok,Sem.run_pure,Bool.not_false]
theorem run_nf_eql {t:TypeId} {p1 p2 p3} (hu:P.underlying t=some (.func p1 p2 p3)):(Go.binOp .eql t .nilFunc .nilFunc).run P w=.ok (.bool true) w:=by
 show (do pure (Value.bool (←Op.equalIn (9999+1) t .nilFunc .nilFunc)):Sem Value).run P w=_
 simp only [Sem.run_bind,run_eqf2 9999 hu,Result.andThen_ok,Sem.run_pure]
theorem run_nf_neq {t:TypeId} {p1 p2 p3} (hu:P.underlying t=some (.func p1 p2 p3)):(Go.binOp .neq t .nilFunc .nilFunc).run P w=.ok (.bool false) w:=by
 show (do pure (Value.bool (!(←Op.equalIn (9999+1) t .nilFunc .nilFunc))):Sem Value).run P w=_
 simp only [Sem.run_bind,run_eqf2 9999 hu,Result.andThen_ok,Sem.run_pure,Bool.not_true]
theorem s_fnz {ng:Bool} {xs:List Opd} (hok:mapOK P (.fnz ng) xs o.op=true) (hR:Rel P c g σ a w) {d:Nat}
  (h:sMap (.fnz ng) d (xs.map (·.ev σ.env)) ob K L) (hF:Fin o c g σ a w K L K'):o.wp P a w K' Q':=by
 obtain ⟨x,x',b,t,u,p1,p2,p3,rfl,ho,hx,hbn,hu⟩:∃x x' b t u p1 p2 p3,xs=[x]∧o.op=.binOp b t x' (.const .nilFunc) u∧x.ok x'=true∧(b=.eql∧ng=false∨b=.neq∧ng=true)∧P.underlying t=some (.func p1 p2 p3):=by
  cases ho:o.op<;>rw [ho] at hok<;>try (simp [mapOK] at hok;done)
  rename_i b t x' y' u
  simp only [mapOK,Bool.and_eq_true] at hok
  obtain ⟨⟨⟨h1,h2⟩,h3⟩,h4⟩:=hok
  split at h1
  ·split at h3
   ·split at h4
    ·rename_i p1 p2 p3 he
     refine ⟨_,_,_,_,_,p1,p2,p3,rfl,rfl,h1,?_,he⟩
     split at h2
     ·exact .inl ⟨rfl,by simpa using h2⟩
     ·exact .inr ⟨rfl,h2⟩
     ·cases h2
    ·cases h4
   ·cases h3
  ·cases h1
 have vx:=Opd.vr hR hx
 simp only [List.map_cons,List.map_nil] at h
 have h:fnz1 ng (x.ev σ.env) K:=h
 have ec:a.eval (.const .nilFunc)=.nilFunc:=rfl
 unfold fnz1 at h
 split at h
 ·rename_i e
  rw [e] at vx
  have hv:=vx.nilf_inv
  refine fin_val hR hF (v:=.bool (!ng)) ?_ (.inl h) (.rd (.bool _))
  rcases hbn with ⟨rfl,rfl⟩|⟨rfl,rfl⟩<;>simp [execOp,ho,hv,ec,eqGuard,run_nf_eql hu,run_nf_neq hu]
 ·rename_i f cs e
  rw [e] at vx
  obtain ⟨vs,hv,_⟩:=vx.fn_inv
  refine fin_val hR hF (v:=.bool ng) ?_ (.inl h) (.rd (.bool _))
  rcases hbn with ⟨rfl,rfl⟩|⟨rfl,rfl⟩<;>simp [execOp,ho,hv,ec,eqGuard,run_fn_eql hu,run_fn_neq hu]
 ·exact h.elim
theorem s_r2s {xs:List Opd} (hok:mapOK P .r2s xs o.op=true) (hR:Rel P c g σ a w) {d:Nat}
  (h:sMap .r2s d (xs.map (·.ev σ.env)) ob K L) (hF:Fin o c g σ a w K L K'):o.wp P a w K' Q':=by
 obtain ⟨x,s,t,x',k,rfl,ho,hx,hs,ht⟩:∃x s t x' k,xs=[x]∧o.op=.convert s t x'∧x.ok x'=true∧P.underlying s=some (.int k)∧isStrT P t=true:=by
  cases ho:o.op<;>rw [ho] at hok<;>try (simp [mapOK] at hok;done)
  simp only [mapOK,Bool.and_eq_true] at hok
  obtain ⟨⟨h1,h2⟩,h3⟩:=hok
  split at h1
  ·split at h2
   ·rename_i k hk
    exact ⟨_,_,_,_,k,rfl,rfl,h1,hk,h3⟩
   ·cases h2
  ·cases h1
 have vx:=Opd.vr hR hx
 simp only [List.map_cons,List.map_nil] at h
 unfold sMap at h
 split at h<;>try (rename_i heq;simp at heq;done)
 all_goals try (rename_i e1 e2;cases e1;done)
 case h_21=>exact h.elim
 rename_i k' n e1 e2
 simp only [List.cons.injEq,and_true] at e2
 rw [e2] at vx
 obtain ⟨ex,rx⟩:=vx.int_inv
 obtain ⟨h1,h3⟩:=h
 obtain ⟨h1,h2⟩:=asc_iff.1 h1
 have htt:P.underlying t=some .string:=by
  unfold isStrT at ht;split at ht<;>simp_all
 have hu8:u8 n=UInt8.ofNat n.toNat:=by
  unfold u8;congr 2;omega
 rw [hu8] at h3
 have hen:Utf8.encode n=⟨#[UInt8.ofNat n.toNat]⟩:=by
  have hv:Utf8.valid n=true:=by simp [Utf8.valid];omega
  have hlt:n.toNat<0x80:=by omega
  simp only [Utf8.encode,hv,if_true,hlt]
 refine fin_val hR hF (v:=.string ⟨#[UInt8.ofNat n.toNat]⟩) ?_ (.inl h3) (.rd (.str ⟨#[UInt8.ofNat n.toNat]⟩ (by show 1≤maxLen;unfold maxLen;omega)))
 simp [execOp,ho,ex,convert,run_underlying hs,run_underlying htt,Conv.intToString,hen]
theorem run_copy_some {t t' ty e:TypeId} {i:TypeInfo} (hu:P.underlying t=some (.slice e)) (hi:P.info? e=some i) {y:Value} {m:Nat} {news:List Value} (hy:(Builtin.lenOf y).run P w=.ok m w) (hf:(Builtin.firstCells i.size m y).run P w=.ok news.toArray w)
  {ad:Addr} {cap:Nat} {w':World} (hst:(storeCells ad news).run P w=.ok () w'):(Builtin.copy_ #[t,t'] ty #[.slice (some ad) m cap,y]).run P w=.ok (.int .i64 m) w':=by
 simp [Builtin.copy_,run_underlying hu,Go.sizeOf,typeInfo,hi,hy,hf,hst,goInt]
theorem run_copy_none {t t' ty e:TypeId} {i:TypeInfo} (hu:P.underlying t=some (.slice e)) (hi:P.info? e=some i) {y:Value} (hy:(Builtin.lenOf y).run P w=.ok 0 w) (hf:(Builtin.firstCells i.size 0 y).run P w=.ok #[] w)
  {ad:Option Addr} {cap:Nat}:(Builtin.copy_ #[t,t'] ty #[.slice ad 0 cap,y]).run P w=.ok (.int .i64 0) w:=by
 cases ad<;>simp [Builtin.copy_,run_underlying hu,Go.sizeOf,typeInfo,hi,hy,hf,goInt,storeCells]
theorem s_bnd {f:Nat} {xs:List Opd} (hok:mapOK P (.bnd f) xs o.op=true) (hR:Rel P c g σ a w) {d:Nat}
  (h:sMap (.bnd f) d (xs.map (·.ev σ.env)) ob K L) (hF:Fin o c g σ a w K L K'):o.wp P a w K' Q':=by
 have:∃first cap',o.op=.makeFunc (.func f) first cap'∧cap'=#[]∧opdsOK xs first.toList=true:=by
  cases ho:o.op<;>rw [ho] at hok<;>try (simp [mapOK] at hok;done)
  rename_i fn first cap'
  cases fn<;>try (simp [mapOK] at hok;done)
  simp [mapOK] at hok
  obtain ⟨⟨h1,h2⟩,h3⟩:=hok
  subst h1
  exact ⟨first,cap',rfl,h2,h3⟩
 obtain ⟨first,cap',ho,rfl,hc⟩:=this
 obtain ⟨hl,hv⟩:=opds_vr hR hc
 have hk:K (evl (.fn (.yield f) (xs.map (·.ev σ.env)))):=by
  unfold sMap at h;exact h
 refine fin_val hR hF (v:=.func (.func f) (first.map a.eval) #[]) ?_ (.inl hk) ?_
 ·simp [execOp,ho,Instr.makeFunc]
 ·refine .bnd _ _ _ (by simp [hl]) fun i x hi=>?_
  have:=hv i x hi
  have e:(first.map a.eval).getD i undef=(first.toList.map a.eval).getD i undef:=by
   simp [Array.getD_eq_getD_getElem?,List.getD]
  rw [e];exact this
theorem StepOK.kept {H:Heap} (x:V) (n:Nat) (o:Obj') (hH:HRel P g w H) (hf:find n H=some o):StepOK g H w ⟨x,[],[(n,o)]⟩ g w:=by
 refine ⟨rfl,rfl,rfl,Nat.le_refl _,fun b hb _=>rfl,fun _ h=>h,fun b hb=>.inl hb,fun b hb=>hH.lt b hb,fun id _=>Gh.agree.refl _ _,?_,?_,?_,?_⟩
 ·intro id o1 h;simp at h;obtain ⟨rfl,rfl⟩:=h;exact hH.obj _ _ hf
 ·intro id o1 h hn;simp at h;obtain ⟨rfl,rfl⟩:=h;exact .inr ⟨id,o1,by simp [Eff.ids],hf,hn,rfl⟩
 ·intro i j o1 o2 hi hj;simp at hi hj;intro _ _ _;rw [hi.1,hj.1]
 ·intro id o1 h hn';simp at h;obtain ⟨rfl,rfl⟩:=h;exact hH.sep _ _ hf hn'
theorem s_cpy {q:Nat} {xs:List Opd} (hok:mapOK P (.cpy q) xs o.op=true) (hR:Rel P c g σ a w) (hob:∀id o,ob id=some o→find id σ.heap=some o) {d:Nat}
  (h:sMap (.cpy q) d (xs.map (·.ev σ.env)) ob K L) (hF:Fin o c g σ a w K L K'):o.wp P a w K' Q':=by
 obtain ⟨x,y,cl,u,v,t,t',rfl,ho,hcl,hargs,hts,hx,hy,hu⟩:∃x y cl u v t t',xs=[x,y]∧o.op=.call cl∧cl.callee=.builtin .copy∧cl.args=#[u,v]∧cl.argTypes=#[t,t']∧x.ok u=true∧y.ok v=true∧isSlice P t q=true:=by
  cases ho:o.op<;>rw [ho] at hok<;>try (simp [mapOK] at hok;done)
  rename_i cl
  obtain ⟨callee,args,ts⟩:=cl
  cases callee<;>try (simp [mapOK] at hok;done)
  rename_i b
  cases b<;>try (simp [mapOK] at hok;done)
  simp only [mapOK] at hok
  split at hok
  ·rename_i u v t t' he het
   simp only [Bool.and_eq_true] at hok
   refine ⟨_,_,_,u,v,t,t',rfl,rfl,rfl,?_,?_,hok.1.1,hok.1.2,hok.2⟩
   ·apply Array.toList_inj.1;simpa using he
   ·apply Array.toList_inj.1;simpa using het
  ·cases hok
 have vx:=Opd.vr hR hx
 have vy:=Opd.vr hR hy
 simp only [List.map_cons,List.map_nil] at h
 unfold sMap at h
 split at h<;>try (rename_i heq;simp at heq;done)
 all_goals try (rename_i e1 e2;cases e1;done)
 case h_21=>exact h.elim
 rename_i q' id k n ys e1 e2
 cases e1
 simp only [List.cons.injEq,and_true] at e2
 obtain ⟨e2,e3⟩:=e2
 rw [e2] at vx
 rw [e3] at vy
 split at h
 case h_2=>exact h.elim
 rename_i k' xs t0 hobj
 cases hkk:Nat.beq k q&&Nat.beq k k'&&Nat.beq n xs.length with
 | false=>rw [hkk] at h;exact h.elim
 | true =>
 rw [hkk] at h
 simp only [Bool.and_eq_true] at hkk
 obtain ⟨⟨hk1,hk2⟩,hn2⟩:=hkk
 have hn2:=Nat.eq_of_beq_eq_true hn2
 have:=Nat.eq_of_beq_eq_true hk1;subst this
 have:=Nat.eq_of_beq_eq_true hk2;subst this
 obtain ⟨⟨hn1,hall⟩,hK⟩:=h
 have hn1:=eqn_iff.1 hn1
 subst hn1
 have hfd:=hob _ _ hobj
 obtain ⟨news,hsr⟩:=app_src hR hob (ob:=ob) (y:=.sl ys) (k:=k) vy rfl (Nat.zero_le _) hall
 obtain ⟨e,hu',hse⟩:∃e,P.underlying t=some (.slice e)∧sizeIs P e k=true:=by
  unfold isSlice at hu
  split at hu
  ·exact ⟨_,by assumption,hu⟩
  ·cases hu
 obtain ⟨i,hi,his⟩:∃i,P.info? e=some i∧i.size=k:=by
  unfold sizeIs at hse
  cases hi:P.info? e with
  | none=>rw [hi] at hse;cases hse
  | some i=>rw [hi] at hse;exact ⟨i,rfl,by simpa using hse⟩
 have hint:inR .i64 (ys.length:Int):=by
  have:=hsr.big
  rw [maxLen] at this
  exact rng_iff.2 ⟨by omega,by omega⟩
 have exec:∀{r:Value} {w':World},(Builtin.copy_ #[t,t'] o.type #[a.eval u,a.eval v]).run P w=.ok r w'→(execOp a.eval o).run P w=.ok (.value r) w':=fun hr=>by
  simp [execOp,ho,resolve,hcl,hargs,hts,invoke,builtin,hr]
 by_cases h0:ys.length=0
 ·have hys:ys=[]:=List.eq_nil_of_length_eq_zero h0
  have hxs:xs=[]:=List.eq_nil_of_length_eq_zero (by omega)
  subst hys hxs
  obtain ⟨p,l,cc,hv,hl⟩:∃p l cc,a.eval u=.slice p l cc∧l=0:=by
   generalize a.eval u=uv at vx
   cases vx with
   | rd h=>cases h
   | oslnil=>exact ⟨_,_,_,rfl,rfl⟩
   | osl=>exact ⟨_,_,_,rfl,rfl⟩
  subst hl
  have hnews:news=[]:=List.eq_nil_of_length_eq_zero (by rw [hsr.len];simp)
  subst hnews
  unfold Oper.wp
  rw [exec (by rw [hv];exact run_copy_none hu' hi (by simpa using hsr.lenOf) (by rw [his];simpa using hsr.first))]
  exact hF _ (.inl hK) g _ _ (StepOK.kept _ _ _ hR.hp hfd) (Fresh.upd _) (.rd (.int _ _ hint))
 rcases hR.hp.obj _ _ hfd with ⟨_,hnil⟩|⟨hnn,ha⟩
 ·rw [hnil] at hn2;exact absurd hn2 h0
 obtain ⟨hkp,⟨cur,et,fz,h1,h2,⟨h3,hty⟩,h4⟩,h5,h6,h7⟩:=ha
 obtain ⟨oo,cc,hv,hoo⟩:∃oo cc,a.eval u=.slice (some ⟨g.ρ id,oo,none⟩) ys.length cc∧oo=g.base id*k:=by
  generalize a.eval u=uv at vx
  generalize hlen:ys.length=ln at vx h0
  cases vx with
  | rd h=>cases h
  | oslnil _ _ _ h=>exact absurd h hnn
  | osl _ _ _ _ o c h ho hc hl hm =>
   refine ⟨o,c,rfl,?_⟩
   rcases ho with ho|ho
   ·omega
   ·simpa using ho
 have hle:oo+0+news.length≤cur.size:=by
  rw [h2,hoo,hsr.len,Nat.add_zero,←Nat.add_mul]
  exact Nat.mul_le_mul_right k (by omega)
 obtain ⟨w',cur',r1,r2,r3,r4,r5,r6,r7,r8,r9⟩:=run_storeRow (P:=P) (g.ρ id) oo et fz news 0 cur w h1 h3 hle hsr.one
 have hkeep:Keep g.S w w':=Keep.upd hR.hp hfd hnn r6
 unfold Oper.wp
 rw [exec (by rw [hv];exact run_copy_some hu' hi hsr.lenOf (by rw [his];exact hsr.first) r1)]
 refine hF _ (.inl hK) g _ _ (StepOK.upd _ id _ _ hR.hp hfd hnn r2 r3 r4 r5 r6 ?_) (Fresh.upd _) (.rd (.int _ _ hint))
 refine .inr ⟨hnn,hkp,⟨cur',et,fz,r7,r8.trans h2,⟨by rw [r8];exact h3,hty⟩,fun i j x y hx hy=>?_⟩,by omega,h6,hsr.elem⟩
 have hi':i<ys.length:=(List.getElem?_eq_some_iff.1 hx).1
 have hxe:=hsr.elem x (List.mem_of_getElem? hx)
 have hj':j<k:=by rw [←hxe.1];exact (List.getElem?_eq_some_iff.1 hy).1
 have hlt:i*k+j<news.length:=by
  rw [hsr.len]
  have:(i+1)*k≤ys.length*k:=Nat.mul_le_mul_right k hi'
  rw [Nat.succ_mul] at this;omega
 have e9:=r9 ((g.base id+i)*k+j)
 have epos:(g.base id+i)*k+j=oo+(i*k+j):=by rw [hoo,Nat.add_mul,Nat.add_assoc]
 rw [epos,if_pos (by omega)] at e9
 have:=(hsr.rd i j x y hx hy).mono hkeep fun _ h=>h
 have eg:cur'.getD ((g.base id+i)*k+j) undef=news.getD (i*k+j) undef:=by
  rw [epos,Array.getD_eq_getD_getElem?,e9,List.getD_eq_getElem?_getD]
  congr 2;omega
 rw [eg];exact this
theorem StepOK.congrH {H H':Heap} {e:Eff} {g':Gh} {w':World} (h:StepOK g H w e g' w') (hd:∀i o,find i H=some o→∃o',find i H'=some o') (hd':∀i o,find i H'=some o→∃o',find i H=some o'):StepOK g H' w e g' w':=by
 refine ⟨h.os,h.tape,h.output,h.size,fun b hb hn=>h.keep b hb fun i o hi ho=>?_,h.sup,fun b hb=>?_,h.slt,h.agree,h.obj,fun i o hi hn=>?_,h.inj,h.sep⟩
 ·obtain ⟨o',ho'⟩:=hd i o ho
  exact hn i o' hi ho'
 ·rcases h.sub b hb with h1|h1|⟨i,o,h1,h2,h3⟩
  ·exact .inl h1
  ·exact .inr (.inl h1)
  ·obtain ⟨o',ho'⟩:=hd i o h2
   exact .inr (.inr ⟨i,o',h1,ho',h3⟩)
 ·rcases h.blk i o hi hn with h1|⟨j,o1,h1,h2,h3⟩
  ·exact .inl h1
  ·obtain ⟨o',ho'⟩:=hd j o1 h2
   exact .inr ⟨j,o',h1,ho',h3⟩
theorem Rel.cutR {id k m:Nat} {xs:List V} {t:Option TypeId} (h:Rel P c g σ a w) (hf:find id σ.heap=some (.arr k xs t)):Rel P c g ⟨σ.env,Go.Ab.put id (.arr k (xs.take m) t) σ.heap⟩ a w:=by
 have dom:∀n o,find n (Go.Ab.put id (.arr k (xs.take m) t) σ.heap)=some o→∃o',find n σ.heap=some o':=fun n o hn=>by
  rw [find_put] at hn
  split at hn
  ·rename_i e;subst e;exact ⟨_,hf⟩
  ·exact ⟨_,hn⟩
 refine ⟨h.size,h.dfr,h.env,⟨fun n o hn=>?_,fun i j o o' hi hj=>?_,fun n o hn=>?_,h.hp.lt,h.hp.tabs⟩,⟨h.fr.os,h.fr.tape,h.fr.output,h.fr.size,h.fr.old,fun n o hn=>?_,h.fr.sup,h.fr.sub,h.fr.par⟩⟩
 ·rw [find_put] at hn
  split at hn
  ·rename_i e;subst e;cases hn
   rcases h.hp.obj _ _ hf with ⟨h1,rfl⟩|⟨h1,k1,⟨cur,e,fz,h2,h3,h4,h5⟩,h6,h7,h8⟩
   ·exact .inl ⟨h1,by simp⟩
   ·refine .inr ⟨h1,k1,⟨cur,e,fz,h2,h3,h4,fun i j x y hx hy=>h5 i j x y ?_ hy⟩,?_,h7,fun x hx=>h8 x (List.mem_of_mem_take hx)⟩
    ·rw [List.getElem?_take] at hx
     split at hx
     ·exact hx
     ·cases hx
    ·rw [List.length_take];omega
  ·exact h.hp.obj n o hn
 ·obtain ⟨o1,h1⟩:=dom i o hi
  obtain ⟨o2,h2⟩:=dom j o' hj
  exact h.hp.inj i j o1 o2 h1 h2
 ·obtain ⟨o1,h1⟩:=dom n o hn
  exact h.hp.sep n o1 h1
 ·obtain ⟨o1,h1⟩:=dom n o hn
  exact h.fr.own n o1 h1
theorem s_apc {q bytes:Nat} {xs:List Opd} (hok:mapOK P (.apc q bytes) xs o.op=true) (hR:Rel P c g σ a w) (hob:∀id o,ob id=some o→find id σ.heap=some o) {d:Nat} (hcl:Clean c σ d)
  (h:sMap (.apc q bytes) d (xs.map (·.ev σ.env)) ob K L) (hF:Fin o c g σ a w K L K'):o.wp P a w K' Q':=by
 obtain ⟨x,y,rfl,hok2⟩:∃x y,xs=[x,y]∧(MIns.app q bytes x y none).ok P o.op=true:=by
  cases ho:o.op<;>rw [ho] at hok<;>try (simp [mapOK] at hok;done)
  rename_i cl
  obtain ⟨callee,args,ts⟩:=cl
  cases callee<;>try (simp [mapOK] at hok;done)
  rename_i b
  cases b<;>try (simp [mapOK] at hok;done)
  simp only [mapOK] at hok
  split at hok
  ·rename_i u v t t' he het
   exact ⟨_,_,rfl,by simp only [MIns.ok,he,het];exact hok⟩
  ·cases hok
 simp only [List.map_cons,List.map_nil] at h
 unfold sMap at h
 split at h<;>try (rename_i heq;simp at heq;done)
 all_goals try (rename_i e1 e2;cases e1;done)
 case h_21=>exact h.elim
 rename_i q' bytes' id k' lo n y' e1 e2
 cases e1
 simp only [List.cons.injEq,and_true] at e2
 obtain ⟨e2,e3⟩:=e2
 subst e3
 split at h
 case h_2=>exact h.elim
 rename_i ys hsrc
 obtain ⟨hvl,h⟩:=h
 split at h
 case h_2=>exact h.elim
 rename_i k'' zs t0 hobj
 cases hkk:Nat.beq q k'&&Nat.beq q k''&&!(y.ev σ.env).has id with
 | false=>rw [hkk] at h;exact h.elim
 | true =>
 rw [hkk] at h
 simp only [Bool.and_eq_true,Bool.not_eq_true'] at hkk
 obtain ⟨⟨hk1,hk2⟩,hyn⟩:=hkk
 have:=Nat.eq_of_beq_eq_true hk1;subst this
 have:=Nat.eq_of_beq_eq_true hk2;subst this
 obtain ⟨⟨hrm,hye⟩,hK⟩:=h
 obtain ⟨hlo,hbd⟩:=roomc_iff.1 hrm
 have hfd:=hob _ _ hobj
 have hR':=hR.cutR (m:=lo+n) hfd
 have dom1:∀i o',find i (Go.Ab.put id (.arr q (zs.take (lo+n)) t0) σ.heap)=some o'→∃o1,find i σ.heap=some o1:=fun i o' hi=>by
  rw [find_put] at hi
  split at hi
  ·rename_i e;subst e;exact ⟨_,hfd⟩
  ·exact ⟨_,hi⟩
 have dom2:∀i o',find i σ.heap=some o'→∃o1,find i (Go.Ab.put id (.arr q (zs.take (lo+n)) t0) σ.heap)=some o1:=fun i o' hi=>by
  rw [find_put]
  split
  ·exact ⟨_,rfl⟩
  ·exact ⟨_,hi⟩
 have hsrc':appSrc q (y.ev σ.env) (fun i=>find i (Go.Ab.put id (.arr q (zs.take (lo+n)) t0) σ.heap))=some ys:=by
  cases hy:y.ev σ.env with
  | osl j k2 l2 n2 =>
   rw [hy] at hsrc hyn
   have hj:j≠id:=fun e=>by subst e;simp [V.has,Nat.beq_refl] at hyn
   simp only [appSrc] at hsrc ⊢
   split at hsrc
   ·rename_i k3 ys3 t3 hoj
    have:=hob _ _ hoj
    simp only [find_put,hj,if_false,this];exact hsrc
   ·cases hsrc
  | _=>rw [hy] at hsrc;exact hsrc
 have hcl':Clean c ⟨σ.env,Go.Ab.put id (.arr q (zs.take (lo+n)) t0) σ.heap⟩ d:=by
  refine ⟨hcl.1,hcl.2.1,?_⟩
  have:∀{H:Heap},noHeap d H=true→noHeap d (Go.Ab.put id (.arr q (zs.take (lo+n)) t0) H)=true:=by
   intro H
   induction H with
   | nil=>intro _;simp [Go.Ab.put,noHeap,Obj'.has]
   | cons p r ih =>
    obtain ⟨m,x⟩:=p
    intro hh
    simp only [noHeap,Bool.and_eq_true] at hh
    simp only [Go.Ab.put]
    cases Nat.beq id m with
    | true=>simp [noHeap,Obj'.has,hh.2]
    | false=>simp only [cond_false,noHeap,Bool.and_eq_true];exact ⟨hh.1,ih hh.2⟩
  exact this hcl.2.2
 have hdl:(zs.take (lo+n)).drop lo=(zs.drop lo).take n:=by rw [List.drop_take];congr 1;omega
 refine s_app (σ:=⟨σ.env,Go.Ab.put id (.arr q (zs.take (lo+n)) t0) σ.heap⟩) (K:=fun e=>e=⟨.osl d q 0 (n+ys.length),[id],[(d,.arr q ((zs.drop lo).take n++ys))]⟩) (L:=fun _=>False) hok2 hR' (ob:=fun i=>find i (Go.Ab.put id (.arr q (zs.take (lo+n)) t0) σ.heap)) (fun _ _ h=>h) hcl' ?_ ?_
 ·simp only [stepV,sApp,hsrc']
  simp only [e2,find_put,if_true,Nat.beq_refl,Bool.and_self,cond_true]
  refine ⟨hvl,⟨by rw [List.length_take];omega,hbd,hye⟩,?_⟩
  rw [hdl]
  cases t0<;>rfl
 ·intro eff hk g' v w' hs hf hv
  rcases hk with rfl|hk
  case inr=>exact hk.elim
  refine hF _ (.inl hK) g' v w' (hs.congrH dom1 dom2) (fun i o' hi=>?_) hv
  rcases hf i o' hi with h1|⟨h1,h2,h3⟩
  ·exact .inl h1
  ·refine .inr ⟨h1,h2,fun n2 o2 hn2 hne=>?_⟩
   by_cases e:n2=id
   ·subst e;rw [hfd] at hn2;cases hn2;rfl
   ·exact h3 n2 o2 (by simp only [find_put,e,if_false];exact hn2) hne
theorem s_mp {m:MapOp} {xs:List Opd} (hok:(MIns.mp m xs).ok P o.op=true) (hR:Rel P c g σ a w) (hob:∀id o,ob id=some o→find id σ.heap=some o) {d:Nat} (hcl:∀n∈(MIns.mp m xs).creates d,Clean c σ n)
  (h:stepV P (.mp m xs) d (xs.map (·.ev σ.env)) ob K L) (hF:Fin o c g σ a w K L K'):o.wp P a w K' Q':=by
 have hok':mapOK P m xs o.op=true:=by
  cases ho:o.op<;>simpa only [MIns.ok,ho] using hok
 have h':sMap m d (xs.map (·.ev σ.env)) ob K L:=h
 cases m with
 | mk kd=>exact s_mk hok' hR (hcl d (by simp [MIns.creates])) h' hF
 | lku kd ok z=>exact s_lku hok' hR hob h' hF
 | up kd=>exact s_up hok' hR hob h' hF
 | del kd=>exact s_del hok' hR hob h' hF
 | len=>exact s_mlen hok' hR hob h' hF
 | rng=>exact s_rng hok' hR (hcl d (by simp [MIns.creates])) h' hF
 | nxt=>exact s_nxt hok' hR hob h' hF
 | ent=>exact s_ent hok' hR hob h' hF
 | isn ng=>exact s_isn hok' hR h' hF
 | tab i=>exact s_tab hok' hR h' hF
 | ups kd=>exact s_ups hok' hR hob h' hF
 | uss=>exact s_uss hok' hR hob h' hF
 | lss=>exact s_lss hok' hR hob h' hF
 | mx3=>exact s_mx3 hok' hR h' hF
 | ifz ng=>exact s_ifz hok' hR h' hF
 | fnz ng=>exact s_fnz hok' hR h' hF
 | r2s=>exact s_r2s hok' hR h' hF
 | bnd f=>exact s_bnd hok' hR h' hF
 | cpy k=>exact s_cpy hok' hR hob h' hF
 | apc k bytes=>exact s_apc hok' hR hob (hcl d (by simp [MIns.creates])) h' hF
end
end Go.Ab
