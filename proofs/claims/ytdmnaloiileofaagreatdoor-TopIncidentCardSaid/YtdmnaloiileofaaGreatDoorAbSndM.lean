/- The abstract layer, part 13a: maps. -/
import Derived.Test.YtdmnaloiileofaaGreatDoorAbBase
import Derived.MapKept
import Derived.Lib.SliceRun
import Derived.Laws.IdiomRangeMap
import Derived.RangeFuncLeaves
import Derived.RangeFuncFrom
import Derived.OrdersIn
set_option linter.all false
namespace Go.Ab
open Go.RowKit
def KD.desc:KD→TypeDesc
 | .int k=>.int k
 | .str=>.string
 | .bool=>.bool
theorem KD.is_inv {kd:KD} {k:V} (h:kd.is k=true):(∃i n,kd=.int i∧k=.int i n)∨(∃s,kd=.str∧k=.str s)∨∃b,kd=.bool∧k=.bool b:=by
 cases kd with
 | int i=>cases i<;>cases k<;>(try (simp [KD.is] at h;done))<;>rename_i j n<;>cases j<;>(try (simp [KD.is] at h;done))<;>exact .inl ⟨_,_,rfl,rfl⟩
 | str=>cases k<;>simp [KD.is] at h;exact .inr (.inl ⟨_,rfl,rfl⟩)
 | bool=>cases k<;>simp [KD.is] at h;exact .inr (.inr ⟨_,rfl,rfl⟩)
theorem KD.same {a b:KD} {k:V} (h:a.is k=true) (h':b.is k=true):a=b:=by
 rcases KD.is_inv h with ⟨i,n,rfl,rfl⟩|⟨s,rfl,rfl⟩|⟨x,rfl,rfl⟩<;>rcases KD.is_inv h' with ⟨j,m,rfl,e⟩|⟨t,rfl,e⟩|⟨y,rfl,e⟩<;>cases e<;>rfl
theorem KD.rd {S:Nat→Prop} {w:World} {kd:KD} {k:V} {v:Value} (h:kd.is k=true) (hr:Rd S w v k):MapKept.IsKey kd.desc v:=by
 rcases KD.is_inv h with ⟨i,n,rfl,rfl⟩|⟨s,rfl,rfl⟩|⟨x,rfl,rfl⟩<;>cases hr<;>simp [KD.desc,MapKept.IsKey]
theorem KD.sc {kd:KD} {k:V} (h:kd.is k=true):k.sc=true:=by
 rcases KD.is_inv h with ⟨i,n,rfl,rfl⟩|⟨s,rfl,rfl⟩|⟨x,rfl,rfl⟩<;>rfl
theorem KD.eq {S S':Nat→Prop} {w w':World} {kd:KD} {k k':V} {v v':Value} (h:kd.is k=true) (h':kd.is k'=true) (hr:Rd S w v k) (hr':Rd S' w' v' k'):v'=v↔keq k k'=true:=by
 rcases KD.is_inv h with ⟨i,n,rfl,rfl⟩|⟨s,rfl,rfl⟩|⟨x,rfl,rfl⟩<;>rcases KD.is_inv h' with ⟨j,m,e1,rfl⟩|⟨t,e1,rfl⟩|⟨y,e1,rfl⟩<;>cases e1<;>cases hr<;>cases hr'
 ·simp only [keq,xM,Value.int.injEq]
  exact ⟨fun h=>h.2.symm,fun h=>⟨trivial,h.symm⟩⟩
 ·rename_i a _ b _
  simp only [keq,xM,Value.string.injEq]
  constructor
  ·rintro rfl;rfl
  ·intro e
   have e1:a.data=b.data:=wF.1 e
   obtain ⟨a⟩:=a;obtain ⟨b⟩:=b
   simp only at e1;subst e1;rfl
 ·simp only [keq,beq_iff_eq,Value.bool.injEq]
  exact ⟨fun h=>h.symm,fun h=>h.symm⟩
section
variable {S:Nat→Prop} {w:World} {kd:KD} {k:V} {v:Value}
theorem b5g.cons {S:Nat→Prop} {w:World} {kd:KD} {e:MapEntry} {l:List MapEntry} {kv:V×V} {es:List (V×V)} (h:b5g S w kd (e::l) (kv::es)):b5g S w kd l es :=
 ⟨by simpa using h.len,fun x hx=>h.key x (xA _ hx),fun i ent kv hi hj=>h.rd (i+1) ent kv (by simpa using hi) (by simpa using hj)⟩
theorem a81 (hk:kd.is k=true) (hv:Rd S w v k):∀{l:List MapEntry} {es:List (V×V)} (i:Nat),b5g S w kd l es →
  (Instr.findNow kd.desc v l i=some none∧c38 k es=none∧(∀u,b8a k u es=es++[(k,u)])∧c55 k es=es∧∀x∈l,x.key≠v) ∨
  ∃j e kv,Instr.findNow kd.desc v l i=some (some (i+j,e.val))∧l[j]?=some e∧es[j]?=some kv∧e.key=v∧c38 k es=some kv.2∧(∀u,b8a k u es=es.set j (kv.1,u))∧c55 k es=es.eraseIdx j
 | [],[],i,_=>.inl ⟨rfl,rfl,fun _=>rfl,rfl,fun x hx=>by cases hx⟩
 | [],_::_,_,h=>by have:=h.len;simp at this
 | _::_,[],_,h=>by have:=h.len;simp at this
 | e::l,(a,b)::es,i,h=>by
  have hka:kd.is a=true:=h.key (a,b) (by simp)
  obtain ⟨ha,hb⟩:=h.rd 0 e (a,b) rfl rfl
  obtain ⟨r,hr,hiff⟩:=MapKept.sameNow_of_keys (KD.rd hk hv) (KD.rd hka ha)
  have heq:=KD.eq hk hka hv ha
  cases hq:keq k a with
  | true =>
   have e1:e.key=v:=heq.2 hq
   have:r=true:=hiff.2 e1.symm
   subst this
   exact .inr ⟨0,e,(a,b),by simp [Instr.findNow,hr],rfl,rfl,e1,by simp [c38,hq],fun u=>by simp [b8a,hq],by simp [c55,hq]⟩
  | false =>
   have hne:e.key≠v:=fun e1=>by rw [heq.1 e1] at hq;cases hq
   have:r=false:=by
    cases r with
    | false=>rfl
    | true=>exact absurd (hiff.1 rfl).symm hne
   subst this
   rcases a81 hk hv (i+1) h.cons with ⟨h1,h2,h3,h4,h5⟩|⟨j,e',kv,h1,h2,h3,h4,h5,h6,h7⟩
   ·refine .inl ⟨by simp [Instr.findNow,hr,h1],by simp [c38,hq,h2],fun u=>by simp [b8a,hq,h3],by simp [c55,hq,h4],fun x hx=>?_⟩
    rcases wY.1 hx with rfl|hx
    ·exact hne
    ·exact h5 x hx
   ·exact .inr ⟨j+1,e',kv,by simp [Instr.findNow,hr,h1];omega,by simpa using h2,by simpa using h3,h4,by simp [c38,hq,h5],fun u=>by simp [b8a,hq,h6],by simp [c55,hq,h7]⟩
theorem b5g.push {l:List MapEntry} {es:List (V×V)} (h:b5g S w kd l es) (hk:kd.is k=true) (hv:Rd S w v k) {u:V} {x:Value} (hu:Rd S w x u) (clock:Nat) :
  b5g S w kd (l++[{ key:=v,val:=x,born:=clock }]) (es++[(k,u)]):=by
 refine ⟨by simp [h.len],fun kv hm=>?_,fun i ent kv hi hj=>?_⟩
 ·rcases wL.1 hm with hm|hm
  ·exact h.key kv hm
  ·simp at hm;subst hm;exact hk
 ·by_cases hlt:i<l.length
  ·rw [zH hlt] at hi
   rw [zH (by rw [←h.len];exact hlt)] at hj
   exact h.rd i ent kv hi hj
  ·rw [zD (by omega)] at hi
   rw [zD (by have:=h.len;omega),←h.len] at hj
   cases hd:i - l.length with
   | zero=>rw [hd] at hi hj;simp at hi hj;subst hi hj;exact ⟨hv,hu⟩
   | succ m=>rw [hd] at hi;simp at hi
theorem b5g.modify {l l':List MapEntry} {es:List (V×V)} (h:b5g S w kd l es) {j:Nat} {e:MapEntry} {kv:V×V} (he:l[j]?=some e) (hj:es[j]?=some kv) {u:V} {x:Value} (hu:Rd S w x u)
  (hl:l'.length=l.length) (h1:∀e',l'[j]?=some e'→e'.key=e.key∧e'.val=x) (h2:∀i,i≠j→l'[i]?=l[i]?):b5g S w kd l' (es.set j (kv.1,u)):=by
 refine ⟨by simp [hl,h.len],fun q hm=>?_,fun i ent q hi hq=>?_⟩
 ·rcases List.mem_or_eq_of_mem_set hm with hm|hm
  ·exact h.key q hm
  ·subst hm;exact h.key kv (z6 hj)
 ·by_cases hij:i=j
  ·subst hij
   have hlt:i<es.length:=(zG.1 hj).1
   rw [List.getElem?_set_self hlt] at hq
   cases hq
   obtain ⟨e1,e2⟩:=h1 ent hi
   exact ⟨by rw [e1];exact (h.rd i e kv he hj).1,by rw [e2];exact hu⟩
  ·rw [h2 i hij] at hi
   rw [List.getElem?_set_ne (fun e=>hij e.symm)] at hq
   exact h.rd i ent q hi hq
theorem b5g.erase {l:List MapEntry} {es:List (V×V)} (h:b5g S w kd l es) (j:Nat):b5g S w kd (l.eraseIdx j) (es.eraseIdx j):=by
 refine ⟨by simp [List.length_eraseIdx,h.len],fun kv hm=>h.key kv (List.mem_of_mem_eraseIdx hm),fun i ent kv hi hj=>?_⟩
 rw [List.getElem?_eraseIdx] at hi hj
 split at hi
 ·rename_i hlt;rw [if_pos hlt] at hj;exact h.rd i ent kv hi hj
 ·rename_i hlt;rw [if_neg hlt] at hj;exact h.rd (i+1) ent kv hi hj
end
section
variable {P:Program} {w:World}
theorem d1a {r m clock:Nat} {ty:TypeId} {seen:Array Nat} {es:Array MapEntry} (hr:w.heap[r]?=some (.mapIter (some m) clock seen clock)) (hb:w.heap[m]?=some (.map es clock)) (hold:∀x∈es.toList,x.born<clock) :
  ((es.toList.filter fun e=>!seen.contains e.born)=[]∧(Instr.next (.pointer (some ⟨r,0,none⟩)) false ty).run P w=.ok (.tuple #[.bool false]) w) ∨
  ∃(i:Nat) (e:MapEntry) (w1:World),(es.toList.filter fun e=>!seen.contains e.born)[i]?=some e∧w1.heap=w.heap∧w1.os=w.os∧w1.output=w.output∧w1.tape=w.tape ∧
   (Instr.next (.pointer (some ⟨r,0,none⟩)) false ty).run P w=.ok (.tuple #[.bool true,e.key,e.val]) { w1 with heap:=w1.heap.setIfInBounds r (.mapIter (some m) clock (seen.push e.born) clock) }:=by
 simp only [Instr.next,getObj,w8,Sem.run,hr,hb,Result.andThen,next_test_false seen es clock clock hold (vJ _),xL,if_false]
 have hlist:(es.toList.filter fun e=>!seen.contains e.born)=(es.filter fun e=>!seen.contains e.born).toList:=by simp
 rw [hlist]
 have hmem:∀x∈(Array.filter (fun e=>!seen.contains e.born) es).toList,x.born<clock:=fun x hx=>hold x (by simp at hx ⊢;exact hx.1)
 generalize Array.filter (fun e=>!seen.contains e.born) es=L at hmem ⊢
 have e1:L.filter (fun x=>decide (x.born<clock))=L:=Array.filter_eq_self.2 (fun x hx=>by simpa using hmem x (by simpa using hx))
 have e2:L.filter (fun x=>decide (x.born≥clock))=#[]:=by
  rw [Array.filter_eq_empty_iff]
  intro x hx
  have:=hmem x (by simpa using hx)
  simp
  omega
 simp only [e1,e2,Array.append_empty]
 by_cases h0:L.size=0
 ·left
  have:L=#[]:=Array.eq_empty_of_size_eq_zero h0
  subst this
  refine ⟨rfl,?_⟩
  simp [choose,Sem.run,Question.forced]
 ·right
  have hne:L.isEmpty=false:=by simp [Array.isEmpty,h0]
  simp only [hne,xL,if_false,Array.empty_append,Array.size_map]
  have hch:∃(j:Nat) (w1:World),j<L.size∧w1.heap=w.heap∧w1.os=w.os∧w1.output=w.output∧w1.tape=w.tape∧(choose (Question.mapNext L.size)).run P w=.ok j w1:=by
   by_cases hf:L.size≤1
   ·exact ⟨0,w,by omega,rfl,rfl,rfl,rfl,by simp [choose,Sem.run,Question.forced,hf]⟩
   ·exact ⟨_,w.drew,Nat.mod_lt _ (by omega),rfl,rfl,rfl,rfl,by
     simp only [choose,Sem.run,Question.forced,xM,hf,if_false,Question.cut]
     rfl⟩
  obtain ⟨j,w1,hj,q1,q2,q3,q4,hrun⟩:=hch
  refine ⟨j,L[j],w1,by simp [hj],q1,q2,q3,q4,?_⟩
  have hset:∀(o':Obj),(setObj r o').run P w1=.ok () { w1 with heap:=w1.heap.setIfInBounds r o' }:=fun o'=>by
   simp only [setObj,Sem.run,q1,hr]
  simp only [hrun,Array.getElem?_map,zI hj,wI,w8,hset,Result.andThen]
  rfl
theorem b8k {r:Nat} {ty:TypeId} {x:Nat} {y:Array Nat} {z:Nat} (hr:w.heap[r]?=some (.mapIter none x y z)):(Instr.next (.pointer (some ⟨r,0,none⟩)) false ty).run P w=.ok (.tuple #[.bool false]) w:=by
 simp only [Instr.next,getObj,w8,Sem.run,hr,Result.andThen]
 rfl
theorem b8z {seen:Array Nat} {e:MapEntry}:∀{l:List MapEntry} {i:Nat},(l.map (·.born)).Nodup→(l.filter fun e=>!seen.contains e.born)[i]?=some e →
  (l.filter fun x=>!(seen.push e.born).contains x.born)=(l.filter fun e=>!seen.contains e.born).eraseIdx i:=by
 have hc:∀x:MapEntry,(!(seen.push e.born).contains x.born)=(!seen.contains x.born&&!(x.born==e.born)):=fun x=>by
  rw [wS];simp [Array.mem_push,not_or]
 have hother:∀l:List MapEntry,(∀x∈l,x.born≠e.born)→(l.filter fun x=>!(seen.push e.born).contains x.born)=l.filter fun e=>!seen.contains e.born:=fun l h=>by
  refine List.filter_congr fun x hx=>?_
  rw [hc]
  simp [h x hx]
 intro l
 induction l with
 | nil=>intro i _ h;simp at h
 | cons x l ih =>
  intro i hn h
  simp only [wZ,List.nodup_cons] at hn
  by_cases hx:seen.contains x.born=true
  ·have h1:(!seen.contains x.born)=false:=by rw [hx];rfl
   have h2:(!(seen.push e.born).contains x.born)=false:=by rw [hc,h1];rfl
   simp only [List.filter_cons,h1,xL,if_false] at h ⊢
   rw [h2]
   exact ih hn.2 h
  ·have h1:(!seen.contains x.born)=true:=by rw [Bool.not_eq_true] at hx;rw [hx];rfl
   simp only [List.filter_cons,h1,if_true] at h ⊢
   cases i with
   | zero =>
    simp at h;subst h
    have h2:(!(seen.push x.born).contains x.born)=false:=by rw [hc];simp
    simp only [h2,xL,if_false,List.eraseIdx_zero,List.tail_cons]
    exact hother l fun y hy hb=>hn.1 (vE.2 ⟨y,hy,hb⟩)
   | succ i =>
    simp only [zN] at h
    have hm:e∈l:=(wK.1 (z6 h)).1
    have hne:x.born≠e.born:=fun hb=>hn.1 (vE.2 ⟨e,hm,hb.symm⟩)
    have h2:(!(seen.push e.born).contains x.born)=true:=by rw [hc,h1];simp [hne]
    simp only [h2,if_true,List.eraseIdx_cons_succ]
    rw [ih hn.2 h]
end
section
variable {P:Program} {o:Oper} {c:Ctx} {g:Gh} {σ:St} {a:Act} {w:World} {ob:Nat→Option a0i} {K L:Eff→Prop} {K':Act→World→Prop} {Q':Exit→Act→World→Prop}
theorem Fin.mk'L (hF:Fin o c g σ a w K L K') {eff:Eff} (hk:L eff) {g':Gh} {v:Value} {w':World} (hrun:(execOp a.eval o).run P w=.ok (.value v) w') (h1:a09 g σ.heap w eff g' w') (h2:a13 c.H0 g g' σ eff) (h3:VR g' w' v eff.val):o.wp P a w K' Q':=by
 unfold Oper.wp
 rw [hrun]
 exact hF eff (.inr hk) g' v w' h1 h2 h3
theorem a6h {t:TypeId} {kd:Option KD} {z:Option V} (h:isMap P t kd z=true):∃kt et,P.underlying t=some (.map kt et)∧(∀k,kd=some k→P.underlying kt=some k.desc) ∧
  (∀y,z=some y→∃u,(∀w':World,(zeroValue et).run P w'=.ok u w')∧cOK y u=true):=by
 unfold isMap at h
 split at h
 case h_2=>cases h
 rename_i kt et hu
 simp only [wE] at h
 obtain ⟨⟨h1,_⟩,h3⟩:=h
 refine ⟨kt,et,hu,fun k hk=>?_,fun y hy=>?_⟩
 ·subst hk
  simp only at h1
  split at h1
  ·rename_i i j e
   have:=b2h h1;subst this;exact e
  ·rename_i e;exact e
  ·rename_i e;exact e
  ·cases h1
 ·subst hy
  simp only at h3
  split at h3
  ·rename_i i hi
   split at h3
   ·rename_i u hz
    exact ⟨u,fun w'=>by simp [zeroValue,typeInfo,hi,hz],h3⟩
   ·cases h3
  ·cases h3
theorem VR.nilm_inv {v:Value} (h:VR g w v .nilm):v=.map none:=by
 cases h with|rd h=>cases h;rfl
theorem b8v {v:Value} {x:V} {Km:KD→List (V×V)→Prop} (hR:a3p P g w σ.heap) (hob:∀id o,ob id=some o→find id σ.heap=some o) (vx:VR g w v x) (h:b1n x ob Km) :
  ∃b kd es ents clock,v=.map (some b)∧w.heap[b]?=some (.map ents clock)∧b5g g.S w kd ents.toList es∧Km kd es:=by
 unfold b1n at h
 split at h
 ·rename_i kd es
  cases vx with
  | rd hr =>
   cases hr with
   | smap b _ ents clock _ hS hg hl hk hb hn hr1 hr2 =>
    exact ⟨b,kd,es,ents,clock,rfl,hg,⟨by simpa using hl,hk,fun i ent kv hi hj=>⟨hr1 i ent kv (by simpa using hi) hj,hr2 i ent kv (by simpa using hi) hj⟩⟩,h⟩
 ·rename_i id
  split at h
  ·rename_i kd es hobj
   obtain ⟨_,ents,clock,h1,h2,_⟩:=hR.obj _ _ (hob _ _ hobj)
   exact ⟨_,kd,es,ents,clock,vx.omap_inv,h1,h2,h⟩
  ·rename_i kd es hobj
   obtain ⟨_,ents,clock,h1,h2,_⟩:=hR.obj _ _ (hob _ _ hobj)
   exact ⟨_,kd,es,ents,clock,vx.omap_inv,h1,h2,h⟩
  ·exact h.elim
 ·exact h.elim
theorem a3b {t:TypeId} {kd:KD} {k:V} {v:Value} {S:Nat→Prop} {w0:World} (hd:P.underlying t=some kd.desc) (hk:kd.is k=true) (hv:Rd S w0 v k) (e:Bool):(Instr.checkKey e 10000 t v).run P w=.ok () w :=
 MapKept.run_checkKey hd (KD.rd hk hv) e 9999
theorem b4b (ok:Bool) (z:V) {v:Value} (h:VR g w v z):VR g w (if ok=true then .tuple #[v,.bool false] else v) (a5p ok z none):=by
 cases ok with
 | false=>exact h
 | true =>
  refine .tup _ _ rfl fun i c hc=>?_
  match i,hc with
  | 0,hc=>simp at hc;subst hc;exact h
  | 1,hc=>simp at hc;subst hc;exact .rd (.bool _)
  | n+2,hc=>simp at hc
theorem c1k (ok:Bool) (z x:V) {v:Value} (h:VR g w v x):VR g w (if ok=true then .tuple #[v,.bool true] else v) (a5p ok z (some x)):=by
 cases ok with
 | false=>exact h
 | true =>
  refine .tup _ _ rfl fun i c hc=>?_
  match i,hc with
  | 0,hc=>simp at hc;subst hc;exact h
  | 1,hc=>simp at hc;subst hc;exact .rd (.bool _)
  | n+2,hc=>simp at hc
theorem VR.nsmap_inv {m p:Nat} {kd:KD} {es:List (V×V)} {v:Value} (h:VR g w v (.nsmap m p kd es)):∃b ents clock,v=.map (some b)∧w.heap[b]?=some (.map ents clock)∧b5g g.S w kd ents.toList es ∧
  ∀(i:Nat) (ent:MapEntry) (kv:V×V),ents[i]?=some ent→es[i]?=some kv→∃xs,kv.2=.sl xs∧a95 g.S (g.base m) p w ent.val xs:=by
 cases h with
 | rd h=>cases h
 | nsmap b _ _ _ ents clock _ hr hS hg hn =>
  refine ⟨b,ents,clock,rfl,hg,?_,hn⟩
  cases hr with
  | smap _ _ ents' clock' _ hS' hg' hl hk hb hn' hr1 hr2 =>
   rw [hg] at hg';cases hg'
   exact ⟨by simpa using hl,hk,fun i ent kv h1 h2=>⟨hr1 i ent kv (by simpa using h1) h2,hr2 i ent kv (by simpa using h1) h2⟩⟩
theorem d5a (ok:Bool) {m p:Nat} {o:Option V} {v:Value} {b:Bool} (hb:o.isSome=b) (h:VR g w v (g1u m p o)):VR g w (if ok=true then .tuple #[v,.bool b] else v) (b8x ok m p o):=by
 cases ok with
 | false=>exact h
 | true =>
  refine .tup _ _ rfl fun i c hc=>?_
  match i,hc with
  | 0,hc=>simp [b8x] at hc;subst hc;exact h
  | 1,hc=>simp [b8x] at hc;subst hc;rw [hb];exact .rd (.bool _)
  | n+2,hc=>simp [b8x] at hc
theorem c8k {z:V} {u:Value} (h:z.isNilS=true) (hu:cOK z u=true):u=.slice none 0 0:=by
 cases z<;>try (simp [V.isNilS] at h;done)
 ·unfold cOK at hu;split at hu<;>first|rfl|(simp at *;done)
 ·rename_i xs
  cases xs with
  | nil=>unfold cOK at hu;split at hu<;>first|rfl|(simp at *;done)
  | cons x r=>simp [V.isNilS] at h
theorem g0v {kd:KD} {ok:Bool} {z:V} {xs:List Opd} (hok:a1j P (.lku kd ok z) xs o.op=true) (hR:Rel P c g σ a w) (hob:∀id o,ob id=some o→find id σ.heap=some o) {d:Nat}
  (h:a2j (.lku kd ok z) d (xs.map (·.ev σ.env)) ob K L) (hF:Fin o c g σ a w K L K'):o.wp P a w K' Q':=by
 obtain ⟨x,k,t,x',k',rfl,ho,hx,hk,hm⟩:∃x k t x' k',xs=[x,k]∧o.op=.lookup t x' k' ok∧x.ok x'=true∧k.ok k'=true∧isMap P t (some kd) (some z)=true:=by
  cases ho:o.op<;>rw [ho] at hok<;>try (simp [a1j] at hok;done)
  rename_i t x' k' c'
  simp only [a1j,wE,beq_iff_eq] at hok
  obtain ⟨⟨h1,rfl⟩,h3⟩:=hok
  split at h1
  ·rename_i x k
   simp only [wE] at h1
   exact ⟨x,k,t,x',k',rfl,rfl,h1.1,h1.2,h3⟩
  ·cases h1
 obtain ⟨kt,et,hu,hkd,hz⟩:=a6h hm
 have hd:=hkd kd rfl
 obtain ⟨u,hzero,hzu⟩:=hz z rfl
 have vx:=Opd.vr hR hx
 have vk:=Opd.vr hR hk
 simp only [a2j,wZ,vF] at h
 have hex:(execOp a.eval o)=(do pure (Next.value (←Instr.lookup t (a.eval x') (a.eval k') ok)):Sem Next):=by simp [execOp,ho]
 split at h
 ·rename_i hc
  cases hkk:kd.is (k.ev σ.env) with
  | false=>rw [hkk] at h;exact h.elim
  | true =>
   rw [hkk] at h
   have hrk:=vk.sc_rd (KD.sc hkk)
   have e1:a.eval x'=.map none:=by rw [hc] at vx;exact vx.nilm_inv
   have hck:=fun e=>a3b (w:=w) hd hkk hrk e
   have hfk:(Instr.findKey kt (a.eval k') []).run P w=.ok none w:=MapKept.run_findKey hd rfl
   refine a0b hR hF (v:=if ok=true then .tuple #[u,.bool false] else u) ?_ (.inl h) (b4b ok z (.rd (b6s hzu)))
   rw [hex]
   refine a88 ?_
   rw [e1]
   simp [Instr.lookup,run_underlying hu,hck,hfk,hzero w,Result.andThen]
 ·rename_i m p kd' es hx0
  rw [hx0] at vx
  obtain ⟨b,ents,clock,e1,hb,he,hnr⟩:=vx.nsmap_inv
  cases hkk:kd.is (k.ev σ.env)&&kd'.is (k.ev σ.env)&&z.isNilS with
  | false=>rw [hkk] at h;exact h.elim
  | true =>
   rw [hkk] at h
   simp only [wE] at hkk
   obtain ⟨hkk,hzn⟩:=hkk
   have:=KD.same hkk.1 hkk.2;subst this
   have hrk:=vk.sc_rd (KD.sc hkk.1)
   have hck:=fun e=>a3b (w:=w) hd hkk.1 hrk e
   rcases a81 hkk.1 hrk 0 he with ⟨h1,h2,_⟩|⟨j,e,kv,h1,h2,h3,h4,h5,_⟩
   ·rw [h2] at h
    have hfk:(Instr.findKey kt (a.eval k') ents.toList).run P w=.ok none w:=MapKept.run_findKey hd h1
    refine a0b hR hF (v:=if ok=true then .tuple #[u,.bool false] else u) ?_ (.inl h) (d5a ok rfl (.nsl m p [] _ (.inl ⟨c8k hzn hzu,rfl⟩)))
    rw [hex]
    refine a88 ?_
    rw [e1]
    simp [Instr.lookup,run_underlying hu,MapKept.run_getObj_map hb,hck,hfk,hzero w,Result.andThen]
   ·rw [h5] at h
    obtain ⟨xs,e2,hnw⟩:=hnr j e kv (by simpa using h2) h3
    have hfk:(Instr.findKey kt (a.eval k') ents.toList).run P w=.ok (some (0+j,e.val)) w:=MapKept.run_findKey hd h1
    refine a0b hR hF (v:=if ok=true then .tuple #[e.val,.bool true] else e.val) ?_ (.inl h) (d5a ok rfl (by rw [e2];exact .nsl m p xs _ hnw))
    rw [hex]
    refine a88 ?_
    rw [e1]
    simp [Instr.lookup,run_underlying hu,MapKept.run_getObj_map hb,hck,hfk,Result.andThen]
 ·rename_i x0 hne
  obtain ⟨b,kd',es,ents,clock,e1,hb,he,hK⟩:=b8v hR.hp hob vx h
  cases hkk:kd.is (k.ev σ.env)&&kd'.is (k.ev σ.env) with
  | false=>rw [hkk] at hK;exact hK.elim
  | true =>
   rw [hkk] at hK
   simp only [wE] at hkk
   have:=KD.same hkk.1 hkk.2;subst this
   have hrk:=vk.sc_rd (KD.sc hkk.1)
   have hck:=fun e=>a3b (w:=w) hd hkk.1 hrk e
   rcases a81 hkk.1 hrk 0 he with ⟨h1,h2,_⟩|⟨j,e,kv,h1,h2,h3,h4,h5,_⟩
   ·rw [h2] at hK
    have hfk:(Instr.findKey kt (a.eval k') ents.toList).run P w=.ok none w:=MapKept.run_findKey hd h1
    refine a0b hR hF (v:=if ok=true then .tuple #[u,.bool false] else u) ?_ (.inl hK) (b4b ok z (.rd (b6s hzu)))
    rw [hex]
    refine a88 ?_
    rw [e1]
    simp [Instr.lookup,run_underlying hu,MapKept.run_getObj_map hb,hck,hfk,hzero w,Result.andThen]
   ·rw [h5] at hK
    have hfk:(Instr.findKey kt (a.eval k') ents.toList).run P w=.ok (some (0+j,e.val)) w:=MapKept.run_findKey hd h1
    refine a0b hR hF (v:=if ok=true then .tuple #[e.val,.bool true] else e.val) ?_ (.inl hK) (c1k ok z kv.2 (.rd (he.rd j e kv h2 h3).2))
    rw [hex]
    refine a88 ?_
    rw [e1]
    simp [Instr.lookup,run_underlying hu,MapKept.run_getObj_map hb,hck,hfk,Result.andThen]
theorem g9x {kd:KD} {xs:List Opd} (hok:a1j P (.mk kd) xs o.op=true) (hR:Rel P c g σ a w) {d:Nat} (hcl:Clean c σ d)
  (h:a2j (.mk kd) d (xs.map (·.ev σ.env)) ob K L) (hF:Fin o c g σ a w K L K'):o.wp P a w K' Q':=by
 obtain ⟨t,rfl,ho⟩:∃t,xs=[]∧o.op=.makeMap t none:=by
  cases ho:o.op<;>rw [ho] at hok<;>try (simp [a1j] at hok;done)
  rename_i t r
  cases r<;>simp [a1j] at hok
  obtain ⟨_,h2⟩:=hok
  split at h2
  ·exact ⟨t,rfl,rfl⟩
  ·cases h2
 simp only [a2j,vF] at h
 have hrun:(execOp a.eval o).run P w=.ok (.value (.map (some w.heap.size))) (w.alloc (.map #[] 0)):=by
  simp [execOp,ho,Instr.makeMap]
 have hh:(w.alloc (.map #[] 0)).heap=w.heap.push (.map #[] 0):=rfl
 have e1:(g.set d w.heap.size 0 0).ρ d=w.heap.size:=by simp [Gh.set]
 have e4:¬(g.set d w.heap.size 0 0).nil d:=by simp [Gh.set]
 refine Fin.mk' hF h hrun (a09.alloc _ d 0 0 _ (.map #[] 0) hR.hp.lt rfl rfl rfl hh ?_) (a13.of_clean hcl) ?_
 ·refine ⟨e4,#[],0,by rw [e1,hh];simp,⟨rfl,(fun kv h=>by cases h),(fun i ent kv hi=>by simp at hi)⟩,by simp,by simp⟩
 ·have:=VR.omap (g:=g.set d w.heap.size 0 0) (w:=w.alloc (.map #[] 0)) d
  rw [e1] at this
  exact this
theorem b8t {l:List MapEntry} {l':List MapEntry} (h:(l.map (·.born)).Nodup) (hl:l'.map (·.born)=l.map (·.born)):(l'.map (·.born)).Nodup:=by rw [hl];exact h
theorem c0h {kd:KD} {t kt et:TypeId} {r:Nat} {ents:Array MapEntry} {clock:Nat} {es:List (V×V)} {kv yv:Value} {kx:V} (hu:P.underlying t=some (.map kt et)) (hd:P.underlying kt=some kd.desc)
  (hb:w.heap[r]?=some (.map ents clock)) (he:b5g g.S w kd ents.toList es) (hb1:∀ent∈ents.toList,ent.born<clock) (hb2:(ents.toList.map (·.born)).Nodup) (hk1:kd.is kx=true) (hrk:Rd g.S w kv kx) :
  ∃ents' clock',(Instr.mapUpdate t (.map (some r)) kv yv).run P w=.ok () { w with heap:=w.heap.setIfInBounds r (.map ents' clock') } ∧
   (∀(S':Nat→Prop) (w':World) (y:V),a2e g.S w w'→(∀b,g.S b→S' b)→Rd S' w' yv y→b5g S' w' kd ents'.toList (b8a kx y es))∧(∀ent∈ents'.toList,ent.born<clock')∧(ents'.toList.map (·.born)).Nodup  ∧
   ∀(y:V) (i:Nat) (ent:MapEntry) (q:V×V),ents'[i]?=some ent→(b8a kx y es)[i]?=some q→(ent.val=yv∧q.2=y)∨(ents[i]?=some ent∧es[i]?=some q):=by
 have hck:=fun e=>a3b (w:=w) hd hk1 hrk e
 rcases a81 hk1 hrk 0 he with ⟨h1,_,h3,_,h5⟩|⟨j,e,q,h1,h2,h3,h4,_,h6,_⟩
 ·have hfk:(Instr.findKey kt kv ents.toList).run P w=.ok none w:=MapKept.run_findKey hd h1
  refine ⟨ents.push { key:=kv,val:=yv,born:=clock },clock+1,?_,fun S' w' y hw hs hy=>?_,fun ent hm=>?_,?_,fun y i ent q hi hq=>?_⟩
  ·simp [Instr.mapUpdate,run_underlying hu,MapKept.run_getObj_map hb,hck,hfk,MapKept.run_setObj_map _ hb,Result.andThen]
  ·rw [h3,Array.toList_push]
   exact (he.mono hw hs).push hk1 (hrk.mono hw hs) hy clock
  ·rw [Array.toList_push] at hm
   rcases wL.1 hm with hm|hm
   ·have:=hb1 ent hm;omega
   ·simp at hm;subst hm;simp
  ·rw [Array.toList_push,List.map_append,List.nodup_append]
   refine ⟨hb2,by simp,fun x hx y hy=>?_⟩
   simp at hy;subst hy
   obtain ⟨q,hq,rfl⟩:=vE.1 hx
   have:=hb1 q hq
   omega
  ·rw [h3] at hq
   have hl:=he.len
   simp only [xD] at hl
   rw [Array.getElem?_push] at hi
   by_cases hij:i=ents.size
   ·rw [if_pos hij] at hi;cases hi
    rw [zD (by omega),show i - es.length=0 by omega] at hq
    simp at hq;subst hq;exact .inl ⟨rfl,rfl⟩
   ·rw [if_neg hij] at hi
    have:=(zF.1 hi).1
    rw [zH (by omega)] at hq
    exact .inr ⟨hi,hq⟩
 ·have hj:ents[j]?=some e:=by simpa using h2
  have hfk:(Instr.findKey kt kv ents.toList).run P w=.ok (some (0+j,e.val)) w:=MapKept.run_findKey hd h1
  have hst:=MapKept.run_keyThatStays (P:=P) (w:=w) (KD.rd hk1 hrk)
  have hget:∀i,(ents.modify j fun e=>{ e with key:=kv,val:=yv }).toList[i]?=if j=i then (ents.toList[i]?).map (fun e=>{ e with key:=kv,val:=yv }) else ents.toList[i]?:=fun i=>by
   simp only [zW,zX]
  refine ⟨ents.modify j fun e=>{ e with key:=kv,val:=yv },clock,?_,fun S' w' y hw hs hy=>?_,fun ent hm=>?_,?_,fun y i ent q' hi hq=>?_⟩
  ·simp only [vA] at hfk
   simp [Instr.mapUpdate,run_underlying hu,MapKept.run_getObj_map hb,hck,hfk,hj,h4,hst,MapKept.run_setObj_map _ hb,Result.andThen]
  ·rw [h6]
   refine (he.mono hw hs).modify h2 h3 hy (by simp) (fun e' hi=>?_) fun i hi=>?_
   ·rw [hget,if_pos rfl,h2] at hi
    simp at hi;subst hi
    exact ⟨h4.symm,rfl⟩
   ·rw [hget,if_neg (fun e=>hi e.symm)]
  ·obtain ⟨i,hi⟩:=zT.1 hm
   rw [hget] at hi
   split at hi
   ·rename_i hij;subst hij
    rw [h2] at hi;simp at hi;subst hi
    exact hb1 e (z6 h2)
   ·exact hb1 ent (z6 hi)
  ·refine b8t hb2 (xS fun i=>?_)
   rw [xQ,xQ,hget]
   split
   ·cases ents.toList[i]?<;>rfl
   ·rfl
  ·rw [h6] at hq
   rw [zX] at hi
   by_cases hij:j=i
   ·subst hij
    rw [if_pos rfl,hj] at hi
    simp at hi;subst hi
    rw [List.getElem?_set_self (zG.1 h3).1] at hq;cases hq
    exact .inl ⟨rfl,rfl⟩
   ·rw [if_neg hij] at hi
    rw [List.getElem?_set_ne hij] at hq
    exact .inr ⟨hi,hq⟩
theorem c6e {xs:List Opd} {op:Op} {kd:KD} {m:c0c} (hm:m=.up kd∨m=.ups kd) (hok:a1j P m xs op=true):∃x k y t x' k' y',xs=[x,k,y]∧(op=.mapUpdate t x' k' y'∨op=.insert t x' k' y')∧x.ok x'=true∧k.ok k'=true∧y.ok y'=true∧isMap P t (some kd) none=true:=by
 rcases hm with rfl|rfl<;>cases op<;>try (simp [a1j] at hok;done)
 all_goals
  rename_i t x' k' y'
  simp only [a1j,wE] at hok
  obtain ⟨h1,h3⟩:=hok
  split at h1
  ·rename_i x k y
   simp only [wE] at h1
   exact ⟨x,k,y,t,x',k',y',rfl,by simp,h1.1.1,h1.1.2,h1.2,h3⟩
  ·cases h1
theorem g9s {kd:KD} {xs:List Opd} (hok:a1j P (.up kd) xs o.op=true) (hR:Rel P c g σ a w) (hob:∀id o,ob id=some o→find id σ.heap=some o) {d:Nat}
  (h:a2j (.up kd) d (xs.map (·.ev σ.env)) ob K L) (hF:Fin o c g σ a w K L K'):o.wp P a w K' Q':=by
 obtain ⟨x,k,y,t,x',k',y',rfl,ho,hx,hk,hy,hm⟩:=c6e (.inl rfl) hok
 obtain ⟨kt,et,hu,hkd,_⟩:=a6h hm
 have hd:=hkd kd rfl
 have vx:=Opd.vr hR hx
 have vk:=Opd.vr hR hk
 have vy:=Opd.vr hR hy
 simp only [wZ,vF] at h
 unfold a2j at h
 split at h<;>try (rename_i heq;simp at heq;done)
 all_goals try (rename_i e1 e2;cases e1;done)
 case h_15=>exact h.elim
 rename_i kd1 id k1 v1 e1 e2
 cases e1
 simp only [wP,and_true] at e2
 obtain ⟨e2,e3,e4⟩:=e2
 rw [e2] at vx
 subst e3 e4
 split at h
 case h_2=>exact h.elim
 rename_i kd' es hobj
 cases hkk:kd.is (k.ev σ.env)&&kd'.is (k.ev σ.env)&&(y.ev σ.env).sealed with
 | false=>rw [hkk] at h;exact h.elim
 | true =>
  rw [hkk] at h
  simp only [wE] at hkk
  obtain ⟨⟨hk1,hk2⟩,hse⟩:=hkk
  have:=KD.same hk1 hk2;subst this
  have hfd:=hob _ _ hobj
  obtain ⟨hnn,ents,clock,hb,he,hb1,hb2⟩:=hR.hp.obj _ _ hfd
  have hrk:=vk.sc_rd (KD.sc hk1)
  have hry:=vy.sealed_rd hse
  have hxe:=vx.omap_inv
  have hlt:g.ρ id<w.heap.size:=(zF.1 hb).1
  obtain ⟨ents',clock',hrun,q1,q2,q3,q4⟩:=c0h (yv:=a.eval y') hu hd hb he hb1 hb2 hk1 hrk
  have hother:∀b,b≠g.ρ id→(w.heap.setIfInBounds (g.ρ id) (.map ents' clock'))[b]?=w.heap[b]?:=fun b hb=>by simp [Ne.symm hb]
  have hkeep:a2e g.S w { w with heap:=w.heap.setIfInBounds (g.ρ id) (.map ents' clock') }:=a2e.upd hR.hp hfd hnn hother
  unfold Oper.wp
  have:(execOp a.eval o).run P w=.ok .skip { w with heap:=w.heap.setIfInBounds (g.ρ id) (.map ents' clock') }:=by
   rcases ho with ho|ho<;>simp [execOp,ho,hxe,hrun]
  rw [this]
  refine hF _ (.inl h) g undef _ (a09.upd _ id _ _ hR.hp hfd hnn rfl rfl rfl (by simp) hother ?_) (a13.upd _) (.any _)
  exact ⟨hnn,ents',clock',by simp [hlt],q1 _ _ _ hkeep (fun _ h=>h) (hry.mono hkeep fun _ h=>h),q2,q3⟩
def Gh.shutR (g:Gh) (n:Nat):Gh:={ g with S:=fun b=>g.S b∨(¬g.nil n∧b=g.ρ n) }
theorem c35 {j q n:Nat} {xs:List V} {ty:Option TypeId} {v:Value} (ho:OR g w j (.arr q xs ty)) (h:VR g w v (.osl j q 0 n)) (hn:n=xs.length):Rd (g.shutR j).S w v (.sl xs):=by
 cases h with
 | rd h=>cases h
 | oslnil id k' lo h =>
  have:xs=[]:=zM.1 hn.symm
  subst this
  exact .nilsl
 | osl id k' lo len o c h hoo hc hl hm =>
  rcases ho with ⟨hn',_⟩|⟨hn',hkp,⟨cur,e,fz,h1,h2,h3,h4⟩,h5,h6,h7⟩
  ·exact absurd hn' h
  ·refine .sl _ o n c q cur e fz _ (.inr ⟨h,rfl⟩) h1 hn.symm (vB hl hm) hl ?_ (fun x hx=>h7 x hx) fun i j' x cx hi hj=>?_
   ·rcases hoo with h0|h0
    ·exact .inl (by omega)
    ·refine .inr ?_
     rw [h0,h2,←vK]
     exact zZ q (by omega)
   ·have hil:i<n:=by rw [hn];exact (zG.1 hi).1
    have hoo':o=(g.base j+0)*q:=hoo.resolve_left (by omega)
    have:=(h4 i j' x cx hi hj).mono (S':=(g.shutR j).S) (w':=w) (fun _ _=>rfl) (fun _ h=>.inl h)
    have e1:o+i*q+j'=(g.base j+i)*q+j':=by rw [hoo',vD,vK (g.base j) i q]
    rw [e1];exact this
theorem d7o {j q n m:Nat} {xs:List V} {ty:Option TypeId} {v:Value} (ho:OR g w j (.arr q xs ty)) (h:VR g w v (.osl j q 0 n)) (hn:n=xs.length) (hb:∀b,m.testBit b=true→g.S b) (hs:¬g.nil j→¬g.S (g.ρ j)):a95 (g.shutR j).S m q w v xs:=by
 cases h with
 | rd h=>cases h
 | oslnil id k' lo h =>
  have:xs=[]:=zM.1 hn.symm
  exact .inl ⟨rfl,this⟩
 | osl id k' lo len o c h hoo hc hl hm =>
  rcases ho with ⟨hn',_⟩|⟨hn',⟨hkp,⟨cur,e,fz,h1,h2,h3,h4⟩,h5,h6,h7⟩⟩
  ·exact absurd hn' h
  ·refine .inr ⟨g.ρ j,o,g.base j,g.cap j,c,by rw [hn],by simpa using hoo,by rw [←hn];exact hl,by omega,hm,?_,.inr ⟨h,rfl⟩,hkp,⟨cur,e,fz,h1,h2,⟨h3.1,trivial⟩,fun i j' x y hi hj=>(h4 i j' x y hi hj).mono (fun _ _=>rfl) fun _ h=>.inl h⟩,h5,h6,h7⟩
   cases ht:m.testBit (g.ρ j) with
   | false=>rfl
   | true=>exact absurd (hb _ ht) (hs h)
theorem g0l {kd:KD} {xs:List Opd} (hok:a1j P (.ups kd) xs o.op=true) (hR:Rel P c g σ a w) (hob:∀id o,ob id=some o→find id σ.heap=some o) {d:Nat}
  (h:a2j (.ups kd) d (xs.map (·.ev σ.env)) ob K L) (hF:Fin o c g σ a w K L K'):o.wp P a w K' Q':=by
 obtain ⟨x,k,y,t,x',k',y',rfl,ho,hx,hk,hy,hm⟩:=c6e (.inr rfl) hok
 obtain ⟨kt,et,hu,hkd,_⟩:=a6h hm
 have hd:=hkd kd rfl
 have vx:=Opd.vr hR hx
 have vk:=Opd.vr hR hk
 have vy:=Opd.vr hR hy
 simp only [wZ,vF] at h
 unfold a2j at h
 split at h<;>try (rename_i heq;simp at heq;done)
 all_goals try (rename_i e1 e2;cases e1;done)
 case h_15=>exact h.elim
 rename_i kd1 id k1 j q n e1 e2
 cases e1
 simp only [wP,and_true] at e2
 obtain ⟨e2,e3,e4⟩:=e2
 rw [e2] at vx
 rw [e4] at vy
 subst e3
 split at h
 case h_3=>exact h.elim
 case h_2 =>
  rename_i z p kd' es q' ys ty hobj hobj2
  cases hkk:kd.is (k.ev σ.env)&&kd'.is (k.ev σ.env)&&(Nat.beq q q'&&Nat.beq n ys.length&&!Nat.beq id j)&&Nat.beq q p with
  | false=>rw [hkk] at h;exact h.elim
  | true =>
   rw [hkk] at h
   simp only [wE,xV] at hkk
   obtain ⟨⟨⟨hk1,hk2⟩,⟨hq,hn⟩,hij⟩,hqp⟩:=hkk
   have:=zR hqp;subst this
   have:=zR hq;subst this
   have hn:=zR hn
   have hij:id≠j:=Nat.ne_of_beq_eq_false hij
   have:=KD.same hk1 hk2;subst this
   have hfd:=hob _ _ hobj
   have hfd2:=hob _ _ hobj2
   obtain ⟨hnn,ents,clock,hb,he,hb1,hb2,hnr,hB⟩:=hR.hp.obj _ _ hfd
   have hrk:=vk.sc_rd (KD.sc hk1)
   have hnw:=d7o (hR.hp.obj _ _ hfd2) vy hn hB (hR.hp.sep _ _ hfd2)
   have hry:=c35 (hR.hp.obj _ _ hfd2) vy hn
   have hxe:=vx.omap_inv
   have hlt:g.ρ id<w.heap.size:=(zF.1 hb).1
   obtain ⟨ents',clock',hrun,q1,q2,q3,q4⟩:=c0h (yv:=a.eval y') hu hd hb he hb1 hb2 hk1 hrk
   have hother:∀b,b≠g.ρ id→(w.heap.setIfInBounds (g.ρ id) (.map ents' clock'))[b]?=w.heap[b]?:=fun b hb=>by simp [Ne.symm hb]
   have hns:¬(g.shutR j).S (g.ρ id):=by
    rintro (h1|⟨h1,h2⟩)
    ·exact hR.hp.sep id _ hfd hnn h1
    ·exact hij (hR.hp.inj id j _ _ hfd hfd2 hnn h1 h2)
   have hkeep:a2e (g.shutR j).S w { w with heap:=w.heap.setIfInBounds (g.ρ id) (.map ents' clock') }:=fun b hb=>hother b fun e=>hns (e▸hb)
   have hup:∀b,g.S b→(g.shutR j).S b:=fun _ h=>.inl h
   unfold Oper.wp
   have:(execOp a.eval o).run P w=.ok .skip { w with heap:=w.heap.setIfInBounds (g.ρ id) (.map ents' clock') }:=by
    rcases ho with ho|ho<;>simp [execOp,ho,hxe,hrun]
   rw [this]
   have hOR:OR (g.shutR j) { w with heap:=w.heap.setIfInBounds (g.ρ id) (.map ents' clock') } id (.nmap z q kd (b8a (k.ev σ.env) (.sl ys) es)) :=
    ⟨hnn,ents',clock',by simp [hlt,Gh.shutR],q1 _ _ _ (fun b hb=>hkeep b (hup b hb)) hup (hry.mono hkeep fun _ h=>h),q2,q3,fun i ent u hi hu=>by
     rcases q4 _ i ent u hi hu with ⟨e5,e6⟩|⟨e5,e6⟩
     ·exact ⟨ys,e6,by rw [e5];exact hnw.mono hkeep fun _ h=>h⟩
     ·obtain ⟨zs,e7,e8⟩:=hnr i ent u e5 e6
      exact ⟨zs,e7,e8.mono (fun b hb=>hkeep b (hup b hb)) hup⟩,fun b hb=>.inl (hB b hb)⟩
   refine hF _ (.inl h) (g.shutR j) undef _ ⟨rfl,rfl,rfl,by simp,fun b hb hb'=>hother b fun e=>hb' id _ (by simp [Eff.ids]) hfd hnn e.symm,hup,fun b hb=>?_,fun b hb=>?_,fun i _=>⟨rfl,rfl,rfl,vP⟩,?_,?_,?_,?_⟩ (fun i o' _=>.inl ⟨rfl,rfl,rfl,vP⟩) (.any _)
   ·rcases hb with hb|⟨h1,h2⟩
    ·exact .inl hb
    ·exact .inr (.inr ⟨j,_,by simp [Eff.ids],hfd2,h1,h2.symm⟩)
   ·rcases hb with hb|⟨h1,h2⟩
    ·have:=hR.hp.lt b hb;simpa using this
    ·rcases hR.hp.obj _ _ hfd2 with ⟨h3,_⟩|⟨_,_,⟨cur,e,fz,h4,_⟩,_⟩
     ·exact absurd h3 h1
     ·rw [h2];have:=(zF.1 h4).1;simpa using this
   ·intro i o1 hi;simp at hi;obtain ⟨rfl,rfl⟩:=hi;exact hOR
   ·intro i o1 hi _;simp at hi;obtain ⟨rfl,rfl⟩:=hi;exact .inr ⟨i,_,by simp [Eff.ids],hfd,hnn,rfl⟩
   ·intro i i' o1 o2 hi hj;simp at hi hj;intro _ _ _;rw [hi.1,hj.1]
   ·intro i o1 hi _;simp at hi;obtain ⟨rfl,rfl⟩:=hi;exact hns
 rename_i kd' es q' ys ty hobj hobj2
 cases hkk:kd.is (k.ev σ.env)&&kd'.is (k.ev σ.env)&&(Nat.beq q q'&&Nat.beq n ys.length&&!Nat.beq id j) with
 | false=>rw [hkk] at h;exact h.elim
 | true =>
  rw [hkk] at h
  simp only [wE,xV] at hkk
  obtain ⟨⟨hk1,hk2⟩,⟨hq,hn⟩,hij⟩:=hkk
  have:=zR hq;subst this
  have hn:=zR hn
  have hij:id≠j:=Nat.ne_of_beq_eq_false hij
  have:=KD.same hk1 hk2;subst this
  have hfd:=hob _ _ hobj
  have hfd2:=hob _ _ hobj2
  obtain ⟨hnn,ents,clock,hb,he,hb1,hb2⟩:=hR.hp.obj _ _ hfd
  have hrk:=vk.sc_rd (KD.sc hk1)
  have hry:=c35 (hR.hp.obj _ _ hfd2) vy hn
  have hxe:=vx.omap_inv
  have hlt:g.ρ id<w.heap.size:=(zF.1 hb).1
  obtain ⟨ents',clock',hrun,q1,q2,q3,q4⟩:=c0h (yv:=a.eval y') hu hd hb he hb1 hb2 hk1 hrk
  have hother:∀b,b≠g.ρ id→(w.heap.setIfInBounds (g.ρ id) (.map ents' clock'))[b]?=w.heap[b]?:=fun b hb=>by simp [Ne.symm hb]
  have hns:¬(g.shutR j).S (g.ρ id):=by
   rintro (h1|⟨h1,h2⟩)
   ·exact hR.hp.sep id _ hfd hnn h1
   ·exact hij (hR.hp.inj id j _ _ hfd hfd2 hnn h1 h2)
  have hkeep:a2e (g.shutR j).S w { w with heap:=w.heap.setIfInBounds (g.ρ id) (.map ents' clock') }:=fun b hb=>hother b fun e=>hns (e▸hb)
  have hup:∀b,g.S b→(g.shutR j).S b:=fun _ h=>.inl h
  unfold Oper.wp
  have:(execOp a.eval o).run P w=.ok .skip { w with heap:=w.heap.setIfInBounds (g.ρ id) (.map ents' clock') }:=by
   rcases ho with ho|ho<;>simp [execOp,ho,hxe,hrun]
  rw [this]
  have hOR:OR (g.shutR j) { w with heap:=w.heap.setIfInBounds (g.ρ id) (.map ents' clock') } id (.map kd (b8a (k.ev σ.env) (.sl ys) es)) :=
   ⟨hnn,ents',clock',by simp [hlt,Gh.shutR],q1 _ _ _ (fun b hb=>hkeep b (hup b hb)) hup (hry.mono hkeep fun _ h=>h),q2,q3⟩
  refine hF _ (.inl h) (g.shutR j) undef _ ⟨rfl,rfl,rfl,by simp,fun b hb hb'=>hother b fun e=>hb' id _ (by simp [Eff.ids]) hfd hnn e.symm,hup,fun b hb=>?_,fun b hb=>?_,fun i _=>⟨rfl,rfl,rfl,vP⟩,?_,?_,?_,?_⟩ (fun i o' _=>.inl ⟨rfl,rfl,rfl,vP⟩) (.any _)
  ·rcases hb with hb|⟨h1,h2⟩
   ·exact .inl hb
   ·exact .inr (.inr ⟨j,_,by simp [Eff.ids],hfd2,h1,h2.symm⟩)
  ·rcases hb with hb|⟨h1,h2⟩
   ·have:=hR.hp.lt b hb;simpa using this
   ·rcases hR.hp.obj _ _ hfd2 with ⟨h3,_⟩|⟨_,_,⟨cur,e,fz,h4,_⟩,_⟩
    ·exact absurd h3 h1
    ·rw [h2];have:=(zF.1 h4).1;simpa using this
  ·intro i o1 hi;simp at hi;obtain ⟨rfl,rfl⟩:=hi;exact hOR
  ·intro i o1 hi _;simp at hi;obtain ⟨rfl,rfl⟩:=hi;exact .inr ⟨i,_,by simp [Eff.ids],hfd,hnn,rfl⟩
  ·intro i i' o1 o2 hi hj;simp at hi hj;intro _ _ _;rw [hi.1,hj.1]
  ·intro i o1 hi _;simp at hi;obtain ⟨rfl,rfl⟩:=hi;exact hns
theorem d7n {v:Value} {i k lo n:Nat} (h:VR g w v (.osl i k lo n)):∃p l q,v=.slice p l q∧(p=none→n=0):=by
 cases h with
 | rd h=>cases h
 | oslnil=>exact ⟨_,_,_,rfl,fun _=>rfl⟩
 | osl=>exact ⟨_,_,_,rfl,fun h=>by cases h⟩
theorem c25 {H:Heap} {d k:Nat} {vs:List V} {ty:Option TypeId} {g':Gh} {w':World} {v:Value} (hs:a09 g H w ⟨.osl d k 0 vs.length,[],[(d,.arr k vs ty)]⟩ g' w') (hv:VR g' w' v (.osl d k 0 vs.length)) (hd:find d H=none) :
  ∃g'',a09 g H w ⟨.sl vs,[],[]⟩ g'' w'∧VR g'' w' v (.sl vs):=by
 have hids:∀id o,id∈(Eff.mk (.osl d k 0 vs.length) [] [(d,.arr k vs ty)]).ids→find id H=some o→False:=fun id o hi ho=>by
  simp [Eff.ids] at hi
  rw [hi,hd] at ho;cases ho
 have ho:=hs.obj d (.arr k vs ty) (by simp)
 have hnew:∀b,¬g'.nil d→b=g'.ρ d→w.heap.size≤b:=fun b hn e=>by
  rcases hs.blk d (.arr k vs ty) (by simp) hn with h|⟨id0,o0,h1,h2,_⟩
  ·rw [e];exact h
  ·exact (hids id0 o0 h1 h2).elim
 refine ⟨{ g with S:=fun b=>g'.S b∨(¬g'.nil d∧b=g'.ρ d) },⟨hs.os,hs.tape,hs.output,hs.size,fun b hb _=>hs.keep b hb fun id o h1 h2=>(hids id o h1 h2).elim,fun b hb=>.inl (hs.sup b hb),fun b hb=>?_,fun b hb=>?_,
  fun id _=>⟨rfl,rfl,rfl,vP⟩,fun _ _ h=>by simp at h,fun _ _ h=>by simp at h,fun _ _ _ _ h=>by simp at h,fun _ _ h=>by simp at h⟩,.rd ?_⟩
 ·rcases hb with hb|⟨h1,h2⟩
  ·rcases hs.sub b hb with h|h|⟨id,o,h1,h2,_⟩
   ·exact .inl h
   ·exact .inr (.inl h)
   ·exact (hids id o h1 h2).elim
  ·exact .inr (.inl (hnew b h1 h2))
 ·rcases hb with hb|⟨h1,h2⟩
  ·exact hs.slt b hb
  ·rw [h2];exact ho.block h1
 ·rcases hv.osl_inv with ⟨hn,rfl,h0⟩|⟨hn,o,cc,rfl,h2,h3,h4,h5⟩
  ·have:vs=[]:=zB h0
   subst this;exact .nilsl
  ·rcases ho with ⟨h,_⟩|⟨_,kpos,⟨cur,e,fz,r1,r2,r3,r4⟩,hlen,hbig,helem⟩
   ·exact absurd h hn
   by_cases hz:vs=[]
   ·subst hz
    exact .sl _ o 0 cc k cur e fz [] (.inr ⟨hn,rfl⟩) r1 rfl (vH _) (vH _) (.inl rfl) (fun x hx=>by cases hx) fun i j x c hx=>by simp at hx
   have hvl:vs.length≠0:=fun h=>hz (zB h)
   have ho':o=(g'.base d+0)*k:=by
    rcases h2 with h|h
    ·omega
    ·exact h
   have hsz:o+vs.length*k≤cur.size:=by
    rw [ho',r2,←vK]
    exact zZ k (by omega)
   refine .sl _ o vs.length cc k cur e fz vs (.inr ⟨hn,rfl⟩) r1 rfl (by omega) h4 (.inr hsz) helem fun i j x c hx hc=>?_
   have:=r4 i j x c hx hc
   rw [show (g'.base d+i)*k+j=o+i*k+j by rw [ho',vD,vK]] at this
   exact this.mono (fun _ _=>rfl) fun b hb=>.inl hb
theorem b0o {n m:Nat} (h:n≠m):Nat.beq n m=false:=by
 cases hb:Nat.beq n m with
 | true=>exact absurd (zR hb) h
 | false=>rfl
mutual
theorem b97:∀x:V,∃m,∀n,m≤n→x.has n=false
 | .ptr id _=>⟨id+1,fun n h=>by simp only [V.has];exact b0o (by omega)⟩
 | .osl id _ _ _=>⟨id+1,fun n h=>by simp only [V.has];exact b0o (by omega)⟩
 | .optr id _ _ _=>⟨id+1,fun n h=>by simp only [V.has];exact b0o (by omega)⟩
 | .omap id=>⟨id+1,fun n h=>by simp only [V.has];exact b0o (by omega)⟩
 | .bptr id=>⟨id+1,fun n h=>by simp only [V.has];exact b0o (by omega)⟩
 | .nsl id _ _=>⟨id+1,fun n h=>by simp only [V.has];exact b0o (by omega)⟩
 | .nsmap id _ _ _=>⟨id+1,fun n h=>by simp only [V.has];exact b0o (by omega)⟩
 | .at_ id _=>⟨id+1,fun n h=>by simp only [V.has];exact b0o (by omega)⟩
 | .agg cs=>by obtain ⟨m,h⟩:=a6i cs;exact ⟨m,fun n hn=>by simp only [V.has];exact h n hn⟩
 | .tup cs=>by obtain ⟨m,h⟩:=a6i cs;exact ⟨m,fun n hn=>by simp only [V.has];exact h n hn⟩
 | .fn _ cs=>by obtain ⟨m,h⟩:=a6i cs;exact ⟨m,fun n hn=>by simp only [V.has];exact h n hn⟩
 | .bool _|.int _ _|.str _|.nils|.nilp|.nilm|.nilf|.nili|.ifc _|.sl _|.smap _ _|.eptr _ _|.adr _ _|.any=>⟨0,fun n _=>by simp [V.has]⟩
theorem a6i:∀cs:List V,∃m,∀n,m≤n→V.hasL n cs=false
 | []=>⟨0,fun n _=>by simp [V.hasL]⟩
 | x::r=>by
  obtain ⟨m1,h1⟩:=b97 x
  obtain ⟨m2,h2⟩:=a6i r
  exact ⟨max m1 m2,fun n hn=>by simp only [V.hasL,h1 n (by omega),h2 n (by omega)];rfl⟩
end
theorem b9a:∀e:List (Nat×V),∃m,∀n,m≤n→a7u n e=true
 | []=>⟨0,fun n _=>rfl⟩
 | (s,x)::r=>by
  obtain ⟨m1,h1⟩:=b97 x
  obtain ⟨m2,h2⟩:=b9a r
  exact ⟨max m1 m2,fun n hn=>by simp [a7u,h1 n (by omega),h2 n (by omega)]⟩
theorem b1t:∀H:Heap,∃m,∀n,m≤n→a1h n H=true∧find n H=none
 | []=>⟨0,fun n _=>⟨rfl,rfl⟩⟩
 | (s,x)::r=>by
  obtain ⟨m2,h2⟩:=b1t r
  have h1:∃m,∀n,m≤n→x.has n=false:=by
   cases x with
   | cells cs t=>obtain ⟨m,h⟩:=a6i cs;exact ⟨m,fun n hn=>by simp only [a0i.has];exact h n hn⟩
   | nmap z k kd es=>exact ⟨z+1,fun n hn=>by simp only [a0i.has];exact b0o (by omega)⟩
   | _=>exact ⟨0,fun n _=>by simp [a0i.has]⟩
  obtain ⟨m1,h1⟩:=h1
  refine ⟨max (max m1 m2) (s+1),fun n hn=>⟨?_,?_⟩⟩
  ·simp [a1h,h1 n (by omega),(h2 n (by omega)).1]
  ·have:Nat.beq n s=false:=by
    cases hb:Nat.beq n s with
    | true=>have:=zR hb;omega
    | false=>rfl
   simp only [find,this,vM];exact (h2 n (by omega)).2
theorem d3e (c:Ctx) (σ:St):∃n,Clean c σ n∧find n σ.heap=none:=by
 obtain ⟨m1,h1⟩:=b9a σ.env
 obtain ⟨m2,h2⟩:=b1t σ.heap
 obtain ⟨m3,h3⟩:=b1t c.H0
 exact ⟨max (max m1 m2) m3,⟨(h3 _ (by omega)).2,h1 _ (by omega),(h2 _ (by omega)).1⟩,(h2 _ (by omega)).2⟩
theorem g0u {k:Nat} {xs:List Opd} (hok:(a0a.lsl k xs).ok P o.op=true) (hR:Rel P c g σ a w) {d0:Nat} (h:p9 P (.lsl k xs) d0 (xs.map (·.ev σ.env)) ob K L) (hF:Fin o c g σ a w K L K'):o.wp P a w K' Q':=by
 obtain ⟨d,hcl,hfr⟩:=d3e c σ
 have hok':(a0a.bslice k xs false).ok P o.op=true:=by
  cases ho:o.op<;>rw [ho] at hok<;>try (simp [a0a.ok] at hok;done)
  exact hok
 have hk:(xs.map (·.ev σ.env)).all (a4j k)=true∧K (evl (.sl (xs.map (·.ev σ.env)))):=by
  unfold p9 at h
  by_cases hb:(xs.map (·.ev σ.env)).all (a4j k)=true
  ·simp only [hb,vO] at h;exact ⟨hb,h⟩
  ·simp [hb] at h
 refine c2o (K:=fun e=>e=⟨.osl d k 0 (xs.map (·.ev σ.env)).length,[],[(d,.arr k (xs.map (·.ev σ.env)))]⟩) (L:=fun _=>False) (d:=d) (ob:=ob) hok' hR hcl ?_ fun eff he g' v w' h1 h2 h3=>?_
 ·unfold p9;simp only [hk.1,vO,uvT]
 ·rcases he with rfl|he
  ·obtain ⟨g'',k1,k2⟩:=c25 h1 h3 hfr
   exact hF _ (.inl hk.2) g'' v w' k1 (fun _ _ h=>by simp [evl] at h) k2
  ·exact he.elim
theorem d22 {v:Value} (h:VR g w v .nils):v=.slice none 0 0:=by
 cases h with
 | rd h=>cases h;rfl
theorem e4l {v:Value} {ys:List V} (h:VR g w v (.sl ys)):∃p l q,v=.slice p l q∧(p=none→ys=[]):=by
 cases h with
 | rd h=>cases h<;>exact ⟨_,_,_,rfl,fun h=>by first|rfl|cases h⟩
theorem g0y {ng:Bool} {xs:List Opd} (hok:a1j P (.isn ng) xs o.op=true) (hR:Rel P c g σ a w) {d:Nat}
  (h:a2j (.isn ng) d (xs.map (·.ev σ.env)) ob K L) (hF:Fin o c g σ a w K L K'):o.wp P a w K' Q':=by
 obtain ⟨x,x',b,t,u,na,nb,e,rfl,ho,hx,hbn,hu⟩:∃x x' b t u na nb e,xs=[x]∧o.op=.binOp b t x' (.const (.slice none na nb)) u∧x.ok x'=true∧(b=.eql∧ng=false∨b=.neq∧ng=true)∧P.underlying t=some (.slice e):=by
  cases ho:o.op<;>rw [ho] at hok<;>try (simp [a1j] at hok;done)
  rename_i b t x' y' u
  simp only [a1j,wE] at hok
  obtain ⟨⟨⟨h1,h2⟩,h3⟩,h4⟩:=hok
  split at h1
  ·split at h3
   ·split at h4
    ·rename_i na nb _ e he
     refine ⟨_,_,_,_,_,na,nb,e,rfl,rfl,h1,?_,he⟩
     split at h2
     ·exact .inl ⟨rfl,by simpa using h2⟩
     ·exact .inr ⟨rfl,h2⟩
     ·cases h2
    ·cases h4
   ·cases h3
  ·cases h1
 have vx:=Opd.vr hR hx
 have run:∀p l q,a.eval x'=.slice p l q→(execOp a.eval o).run P w=.ok (.value (.bool (bif ng then !p.isNone else p.isNone))) w:=fun p l q e=>by
  have h1:=Lib.run_eql_slice_nil (P:=P) w t _ p l q na nb hu
  have ec:a.eval (.const (.slice none na nb))=.slice none na nb:=rfl
  rcases hbn with ⟨rfl,rfl⟩|⟨rfl,rfl⟩
  ·simp [execOp,ho,e,ec,eqGuard_at_slice,h1]
  ·have h2:(binOp .neq t (.slice p l q) (.slice none na nb)).run P w=.ok (.bool (!p.isNone)) w:=by
    have h3:(Op.equal t (.slice p l q) (.slice none na nb)).run P w=.ok p.isNone w:=by
     have h1':=h1
     simp only [binOp,w8,w7] at h1'
     cases hq:(Op.equal t (.slice p l q) (.slice none na nb)).run P w<;>rw [hq] at h1'<;>simp [Result.andThen] at h1'
     obtain ⟨rfl,rfl⟩:=h1';rfl
    simp [binOp,h3]
   simp [execOp,ho,e,ec,eqGuard_at_slice,h2]
 simp only [wZ,vF,a2j] at h
 have fin:∀b:Bool,(execOp a.eval o).run P w=.ok (.value (.bool b)) w→L (evl (.bool b))→o.wp P a w K' Q':=fun b hr hl=>a0b hR hF hr (.inr hl) (.rd (.bool b))
 split at h
 ·rename_i hev
  rw [hev] at vx
  refine fin _ (run _ _ _ (d22 vx)) ?_
  cases ng<;>exact h
 ·rename_i ys hev
  rw [hev] at vx
  obtain ⟨p,l,q,e,hp⟩:=e4l vx
  refine fin _ (run _ _ _ e) ?_
  cases p with
  | none=>have:=h.1 (hp rfl);cases ng<;>exact this
  | some p=>have:=h.2;cases ng<;>exact this
 ·rename_i i1 i2 i3 n hev
  rw [hev] at vx
  obtain ⟨p,l,q,e,hp⟩:=d7n vx
  refine fin _ (run _ _ _ e) ?_
  cases p with
  | none=>have:=h.1 (hp rfl);cases ng<;>exact this
  | some p=>have:=h.2;cases ng<;>exact this
 ·exact h.elim
theorem g0m {i:Nat} {xs:List Opd} (hok:a1j P (.tab i) xs o.op=true) (hR:Rel P c g σ a w) {d:Nat}
  (h:a2j (.tab i) d (xs.map (·.ev σ.env)) ob K L) (hF:Fin o c g σ a w K L K'):o.wp P a w K' Q':=by
 obtain ⟨t,q,dd,rfl,ho,hdd,hg,ht⟩:∃t q dd,xs=[]∧o.op=.load t (.global q)∧c0l[i]?=some dd∧P.globalNamed dd.1=some q∧c41 P t=some (some dd.2.2.length):=by
  cases ho:o.op<;>rw [ho] at hok<;>try (simp [a1j] at hok;done)
  rename_i t y
  cases y<;>try (simp [a1j] at hok;done)
  rename_i q
  simp only [a1j,wE] at hok
  obtain ⟨h1,h2⟩:=hok
  split at h1
  ·split at h2
   ·rename_i dd hdd
    simp only [wE,xM] at h2
    exact ⟨t,q,dd,rfl,rfl,hdd,h2.1,h2.2⟩
   ·cases h2
  ·cases h1
 simp only [vF] at h
 have h':K (evl (.agg (dd.2.2.map (V.int dd.2.1)))):=by
  unfold a2j at h
  simp only [hdd] at h
  exact h
 have htab:∀w',a2e g.S w w'→Lib.TabIs P w' dd.1 dd.2.1 dd.2.2:=fun w' hk=>(hR.hp.tabs w' hk).1 dd (z6 hdd) (by rw [hg];rfl)
 have h0:=htab w fun _ _=>rfl
 unfold Lib.TabIs World.var? at h0
 rw [hg] at h0
 simp only [xX] at h0
 split at h0
 case h_2=>cases h0
 rename_i cs e fz hcs
 have hcs':cs=(dd.2.2.map fun z=>Value.int dd.2.1 z).toArray:=wH h0
 subst hcs'
 have hrng:∀z∈dd.2.2,inR dd.2.1 z:=by
  have:∀d∈c0l,∀z∈d.2.2,inR d.2.1 z:=by
   intro d hd
   simp only [c0l,wY,List.not_mem_nil,or_false] at hd
   rcases hd with rfl|rfl|rfl<;>simp [inR,IntKind.min,IntKind.max,IntKind.signed,IntKind.bits]
  exact this dd (z6 hdd)
 obtain ⟨u,z,hrun,hz,hv⟩:=a2c (P:=P) (g:=g) (w:=w) ht (o':=0) (off:=0) (cs:=dd.2.2.map (V.int dd.2.1)) (Kp:=fun x=>x=V.agg (dd.2.2.map (V.int dd.2.1))) hcs (by simp) (fun j x hj=>by
  rw [xQ] at hj
  cases hz:dd.2.2[j]? with
  | none=>rw [hz] at hj;cases hj
  | some n =>
   rw [hz] at hj;cases hj
   have hlt:=(zG.1 hz).1
   have e1:((dd.2.2.map fun z=>Value.int dd.2.1 z).toArray.getD (0+j) undef)=.int dd.2.1 n:=by
    simp [zC,hlt,(zG.1 hz).2]
   rw [e1]
   exact .rd (.int _ _ (hrng n (z6 hz)))) (by
  simp only [part,wN]
  have:Nat.ble (0+dd.2.2.length) dd.2.2.length=true:=by simp
  rw [this]
  simp only [vO,wU]
  rw [←wN (f:=V.int dd.2.1),xY])
 subst hz
 refine a0b hR hF (v:=u) ?_ (.inl h') hv
 have ec:a.eval (.global q)=.pointer (some ⟨q,0,none⟩):=rfl
 simp [execOp,ho,Instr.loadAt,ec,Instr.sureAddr] at hrun ⊢
 simp [hrun]
theorem g1i {kd:KD} {xs:List Opd} (hok:a1j P (.del kd) xs o.op=true) (hR:Rel P c g σ a w) (hob:∀id o,ob id=some o→find id σ.heap=some o) {d:Nat}
  (h:a2j (.del kd) d (xs.map (·.ev σ.env)) ob K L) (hF:Fin o c g σ a w K L K'):o.wp P a w K' Q':=by
 obtain ⟨x,k,cl,t,t2,x',k',rfl,ho,hcl,hargs,hts,hx,hk,hm⟩:∃x k cl t t2 x' k',xs=[x,k]∧o.op=.call cl∧cl.callee=.builtin .delete∧cl.args=#[x',k']∧cl.argTypes=#[t,t2]∧x.ok x'=true∧k.ok k'=true∧isMap P t (some kd) none=true:=by
  cases ho:o.op<;>rw [ho] at hok<;>try (simp [a1j] at hok;done)
  rename_i cl
  obtain ⟨callee,args,ts⟩:=cl
  cases callee<;>try (simp [a1j] at hok;done)
  rename_i b
  cases b<;>try (simp [a1j] at hok;done)
  simp only [a1j] at hok
  split at hok
  ·rename_i xx k x' k' t t2 he1 he2
   simp only [wE] at hok
   exact ⟨xx,k,_,t,t2,x',k',rfl,rfl,rfl,wF.1 (by simpa using he1),wF.1 (by simpa using he2),hok.1.1,hok.1.2,hok.2⟩
  ·cases hok
 obtain ⟨kt,et,hu,hkd,_⟩:=a6h hm
 have hd:=hkd kd rfl
 have vx:=Opd.vr hR hx
 have vk:=Opd.vr hR hk
 simp only [wZ,vF] at h
 unfold a2j at h
 split at h<;>try (rename_i heq;simp at heq;done)
 all_goals try (rename_i e1 e2;cases e1;done)
 case h_15=>exact h.elim
 rename_i kd1 id k1 e1 e2
 cases e1
 simp only [wP,and_true] at e2
 obtain ⟨e2,e3⟩:=e2
 rw [e2] at vx
 subst e3
 split at h
 case h_2=>exact h.elim
 rename_i kd' es hobj
 cases hkk:kd.is (k.ev σ.env)&&kd'.is (k.ev σ.env) with
 | false=>rw [hkk] at h;exact h.elim
 | true =>
  rw [hkk] at h
  simp only [wE] at hkk
  obtain ⟨hk1,hk2⟩:=hkk
  have:=KD.same hk1 hk2;subst this
  have hfd:=hob _ _ hobj
  obtain ⟨hnn,ents,clock,hb,he,hb1,hb2⟩:=hR.hp.obj _ _ hfd
  have hrk:=vk.sc_rd (KD.sc hk1)
  have hck:=fun e=>a3b (w:=w) hd hk1 hrk e
  have hxe:=vx.omap_inv
  have hlt:g.ρ id<w.heap.size:=(zF.1 hb).1
  have fin:∀ents',(Builtin.delete_ #[t,t2] o.type #[a.eval x',a.eval k']).run P w=.ok (.tuple #[]) { w with heap:=w.heap.setIfInBounds (g.ρ id) (.map ents' clock) } →
    (∀w':World,a2e g.S w w'→b5g g.S w' kd ents'.toList (c55 (k.ev σ.env) es))→(∀ent∈ents'.toList,ent.born<clock)→(ents'.toList.map (·.born)).Nodup→o.wp P a w K' Q':=by
   intro ents' hrun q1 q2 q3
   have hother:∀b,b≠g.ρ id→(w.heap.setIfInBounds (g.ρ id) (.map ents' clock))[b]?=w.heap[b]?:=fun b hb=>by simp [Ne.symm hb]
   have hkeep:a2e g.S w { w with heap:=w.heap.setIfInBounds (g.ρ id) (.map ents' clock) }:=a2e.upd hR.hp hfd hnn hother
   refine Fin.mk' hF h (v:=.tuple #[]) (w':={ w with heap:=w.heap.setIfInBounds (g.ρ id) (.map ents' clock) }) ?_ (a09.upd _ id _ _ hR.hp hfd hnn rfl rfl rfl (by simp) hother ?_) (a13.upd _) (.tup _ _ rfl fun i c hc=>by simp at hc)
   ·simp [execOp,ho,resolve,hcl,hargs,hts,invoke,builtin,hrun]
   ·exact ⟨hnn,ents',clock,by simp [hlt],q1 _ hkeep,q2,q3⟩
  rcases a81 hk1 hrk 0 he with ⟨h1,_,_,h4,h5⟩|⟨j,e,kv,h1,h2,h3,h4,_,_,h7⟩
  ·have hfk:(Instr.findKey kt (a.eval k') ents.toList).run P w=.ok none w:=MapKept.run_findKey hd h1
   refine fin ents ?_ (fun w' hw=>by rw [h4];exact he.mono hw fun _ h=>h) hb1 hb2
   rw [hxe]
   simp [Builtin.delete_,run_underlying hu,MapKept.run_getObj_map hb,hck,hfk,MapKept.run_setObj_map _ hb,Result.andThen]
  ·have hfk:(Instr.findKey kt (a.eval k') ents.toList).run P w=.ok (some (0+j,e.val)) w:=MapKept.run_findKey hd h1
   have hjl:j<ents.size:=by simpa using (zG.1 h2).1
   have htl:(ents.eraseIdxIfInBounds j).toList=ents.toList.eraseIdx j:=by
    unfold Array.eraseIdxIfInBounds
    rw [dif_pos hjl,Array.toList_eraseIdx]
   refine fin (ents.eraseIdxIfInBounds j) ?_ (fun w' hw=>by rw [h7,htl];exact (he.mono hw fun _ h=>h).erase j) (fun ent hm=>?_) ?_
   ·rw [hxe]
    simp only [vA] at hfk
    simp [Builtin.delete_,run_underlying hu,MapKept.run_getObj_map hb,hck,hfk,MapKept.run_setObj_map _ hb,Result.andThen]
   ·rw [htl] at hm;exact hb1 ent (List.mem_of_mem_eraseIdx hm)
   ·rw [htl];exact ((List.eraseIdx_sublist _ _).map _).nodup hb2
theorem e4s {xs:List Opd} (hok:a1j P .len xs o.op=true) (hR:Rel P c g σ a w) (hob:∀id o,ob id=some o→find id σ.heap=some o) {d:Nat}
  (h:a2j .len d (xs.map (·.ev σ.env)) ob K L) (hF:Fin o c g σ a w K L K'):o.wp P a w K' Q':=by
 obtain ⟨x,cl,t,x',rfl,ho,hcl,hargs,hts,hx,hm⟩:∃x cl t x',xs=[x]∧o.op=.call cl∧cl.callee=.builtin .len∧cl.args=#[x']∧cl.argTypes=#[t]∧x.ok x'=true∧isMap P t none none=true:=by
  cases ho:o.op<;>rw [ho] at hok<;>try (simp [a1j] at hok;done)
  rename_i cl
  obtain ⟨callee,args,ts⟩:=cl
  cases callee<;>try (simp [a1j] at hok;done)
  rename_i b
  cases b<;>try (simp [a1j] at hok;done)
  simp only [a1j] at hok
  split at hok
  ·rename_i xx x' t he1 he2
   simp only [wE] at hok
   exact ⟨xx,_,t,x',rfl,rfl,rfl,wF.1 (by simpa using he1),wF.1 (by simpa using he2),hok.1,hok.2⟩
  ·cases hok
 obtain ⟨kt,et,hu,_,_⟩:=a6h hm
 have vx:=Opd.vr hR hx
 simp only [a2j,wZ,vF] at h
 have fin:∀(n:Nat),(Builtin.len_ #[t] o.type #[a.eval x']).run P w=.ok (goInt n) w→(n:Int)≤9223372036854775807→K (evl (.int .i64 n))→o.wp P a w K' Q':=by
  intro n hrun hm hk
  refine a0b hR hF (v:=goInt n) ?_ (.inl hk) (.rd (.int _ _ ?_))
  ·simp [execOp,ho,resolve,hcl,hargs,hts,invoke,builtin,hrun]
  ·rw [a1q];simp only [rng];omega
 split at h
 ·rename_i hc
  rw [hc] at vx
  exact fin 0 (by simp [vx.nilm_inv,Builtin.len_,run_underlying hu]) (by omega) h
 ·rename_i x0 hne
  obtain ⟨b,kd',es,ents,clock,e1,hb,he,hK⟩:=b8v hR.hp hob vx h
  refine fin es.length ?_ hK.1 hK.2
  have hl:ents.size=es.length:=by simpa using he.len
  simp [e1,Builtin.len_,run_underlying hu,MapKept.run_getObj_map hb,hl]
theorem g0p {xs:List Opd} (hok:a1j P .rng xs o.op=true) (hR:Rel P c g σ a w) {d:Nat} (hcl:Clean c σ d)
  (h:a2j .rng d (xs.map (·.ev σ.env)) ob K L) (hF:Fin o c g σ a w K L K'):o.wp P a w K' Q':=by
 obtain ⟨x,t,x',rfl,ho,hx,hm⟩:∃x t x',xs=[x]∧o.op=.range t x'∧x.ok x'=true∧isMap P t none none=true:=by
  cases ho:o.op<;>rw [ho] at hok<;>try (simp [a1j] at hok;done)
  simp only [a1j,wE] at hok
  obtain ⟨h1,h3⟩:=hok
  split at h1
  ·exact ⟨_,_,_,rfl,rfl,h1,h3⟩
  ·cases h1
 obtain ⟨kt,et,hu,_,_⟩:=a6h hm
 have vx:=Opd.vr hR hx
 simp only [a2j,wZ,vF] at h
 have fin:∀(it:Obj) (es:List (V×V)),(Instr.range t (a.eval x')).run P w=.ok (.pointer (some ⟨w.heap.size,0,none⟩)) (w.alloc it)→K ⟨.ptr d 0,[],[(d,.iter es none)]⟩ →
   (∀w':World,a2e g.S w w'→w'.heap[w.heap.size]?=some it→c0d g.S w' w.heap.size es none)→o.wp P a w K' Q':=by
  intro it es hrun hk q
  have hh:(w.alloc it).heap=w.heap.push it:=rfl
  have e1:(g.set d w.heap.size 0 0).ρ d=w.heap.size:=by simp [Gh.set]
  have e4:¬(g.set d w.heap.size 0 0).nil d:=by simp [Gh.set]
  refine Fin.mk' hF hk (v:=.pointer (some ⟨w.heap.size,0,none⟩)) (w':=w.alloc it) ?_ (a09.alloc _ d 0 0 _ it hR.hp.lt rfl rfl rfl hh ?_) (a13.of_clean hcl) ?_
  ·simp [execOp,ho,hrun]
  ·refine ⟨e4,?_⟩
   rw [e1]
   exact q _ (a2e.push hR.hp.lt hh) (by rw [hh];simp)
  ·have:=VR.ptr (g:=g.set d w.heap.size 0 0) (w:=w.alloc it) d 0
   rw [e1] at this
   exact this
 split at h
 ·rename_i hc
  rw [hc] at vx
  exact fin (.mapIter none 0 #[] 0) [] (by rw [vx.nilm_inv];simp [Instr.range,run_underlying hu]) h fun w' _ hw=>.inl ⟨_,_,_,hw,rfl,rfl⟩
 ·rename_i kd es hc
  rw [hc] at vx
  generalize hev:a.eval x'=ev at vx
  cases vx with
  | rd hr =>
   cases hr with
   | smap b _ ents clock _ hS hg hl hk hb hn hr1 hr2 =>
    refine fin (.mapIter (some b) clock #[] clock) es ?_ h fun w' hk' hw=>?_
    ·rw [hev];exact run_range_map w t kt et b ents clock hu hg
    ·have hf:(ents.toList.filter fun e=>!(#[]:Array Nat).contains e.born)=ents.toList:=List.filter_eq_self.2 fun x _=>by simp
     refine .inr ⟨b,clock,#[],ents,hw,hS,(hk' b hS).trans hg,hb,hn,by rw [hf];simpa using hl,fun i ent kv hi hj=>?_,fun kv h=>by cases h⟩
     rw [hf] at hi
     exact ⟨(hr1 i ent kv (by simpa using hi) hj).mono hk' fun _ h=>h,(hr2 i ent kv (by simpa using hi) hj).mono hk' fun _ h=>h⟩
 ·exact h.elim
theorem g0q {xs:List Opd} (hok:a1j P .nxt xs o.op=true) (hR:Rel P c g σ a w) (hob:∀id o,ob id=some o→find id σ.heap=some o) {d:Nat}
  (h:a2j .nxt d (xs.map (·.ev σ.env)) ob K L) (hF:Fin o c g σ a w K L K'):o.wp P a w K' Q':=by
 obtain ⟨x,x',rfl,ho,hx⟩:∃x x',xs=[x]∧o.op=.next x' false∧x.ok x'=true:=by
  cases ho:o.op<;>rw [ho] at hok<;>try (simp [a1j] at hok;done)
  simp only [a1j,wE,xV] at hok
  obtain ⟨h1,h3⟩:=hok
  subst h3
  split at h1
  ·exact ⟨_,_,rfl,rfl,h1⟩
  ·cases h1
 have vx:=Opd.vr hR hx
 simp only [wZ,vF] at h
 unfold a2j at h
 split at h<;>try (rename_i heq;simp at heq;done)
 all_goals try (rename_i e1 e2;cases e1;done)
 case h_15=>exact h.elim
 rename_i id e1 e2
 simp only [wP,and_true] at e2
 rw [e2] at vx
 split at h
 case h_2=>exact h.elim
 rename_i rem cur hobj
 obtain ⟨hk1,hk2⟩:=h
 have hfd:=hob _ _ hobj
 obtain ⟨hnn,hit⟩:=hR.hp.obj _ _ hfd
 have hxe:=vx.ptr_inv
 rcases hit with ⟨q1,q2,q3,hb,rfl,_⟩|⟨m,clock,seen,ents,hb,hS,hm,hold,hnd,hl,hrd,_⟩
 ·refine Fin.mk'L hF (hk1 rfl) (v:=.tuple #[.bool false]) (w':=w) ?_ (a09.upd _ id _ _ hR.hp hfd hnn rfl rfl rfl rfl (fun _ _=>rfl) ⟨hnn,.inl ⟨_,_,_,hb,rfl,rfl⟩⟩) (a13.upd _) ?_
  ·have:=b8k (P:=P) (ty:=o.type) hb
   simp [execOp,ho,hxe,this]
  ·refine .tup _ _ rfl fun i c hc=>?_
   match i,hc with
   | 0,hc=>simp at hc;subst hc;exact .rd (.bool _)
   | n+1,hc=>simp at hc
 ·rcases d1a (P:=P) (ty:=o.type) hb hm hold with ⟨h0,hrun⟩|⟨i,e,w1,hi,p1,p2,p3,p4,hrun⟩
  ·have hr0:rem=[]:=zB (by rw [←hl,h0];rfl)
   subst hr0
   refine Fin.mk'L hF (hk1 rfl) (v:=.tuple #[.bool false]) (w':=w) ?_ (a09.upd _ id _ _ hR.hp hfd hnn rfl rfl rfl rfl (fun _ _=>rfl) ⟨hnn,.inr ⟨m,clock,seen,ents,hb,hS,hm,hold,hnd,hl,hrd,fun kv h=>by cases h⟩⟩) (a13.upd _) ?_
   ·simp [execOp,ho,hxe,hrun]
   ·refine .tup _ _ rfl fun i c hc=>?_
    match i,hc with
    | 0,hc=>simp at hc;subst hc;exact .rd (.bool _)
    | n+1,hc=>simp at hc
  ·have hlt:i<rem.length:=by rw [←hl];exact (zG.1 hi).1
   have hkv:rem[i]?=some rem[i]:=zJ hlt
   obtain ⟨r1,r2⟩:=hrd i e _ hi hkv
   have hother:∀b,b≠g.ρ id→(w1.heap.setIfInBounds (g.ρ id) (.mapIter (some m) clock (seen.push e.born) clock))[b]?=w.heap[b]?:=fun b hb=>by rw [p1];simp [Ne.symm hb]
   have hkeep:a2e g.S w { w1 with heap:=w1.heap.setIfInBounds (g.ρ id) (.mapIter (some m) clock (seen.push e.born) clock) }:=a2e.upd hR.hp hfd hnn hother
   have hlt2:g.ρ id<w.heap.size:=(zF.1 hb).1
   refine Fin.mk'L hF (hk2 i _ hkv) (v:=.tuple #[.bool true,e.key,e.val]) (w':={ w1 with heap:=w1.heap.setIfInBounds (g.ρ id) (.mapIter (some m) clock (seen.push e.born) clock) }) ?_
    (a09.upd _ id _ _ hR.hp hfd hnn p2 p4 p3 (by simp [p1]) hother ⟨hnn,.inr ⟨m,clock,seen.push e.born,ents,by simp [p1,hlt2],hS,(hkeep m hS).trans hm,hold,hnd,?_,?_,?_⟩⟩) (a13.upd _) ?_
   ·simp [execOp,ho,hxe,hrun]
   ·rw [b8z hnd hi,List.length_eraseIdx,List.length_eraseIdx,hl]
   ·intro j ent kv hj hq
    rw [b8z hnd hi,List.getElem?_eraseIdx] at hj
    rw [List.getElem?_eraseIdx] at hq
    split at hj
    ·rename_i hlt;rw [if_pos hlt] at hq
     exact ⟨(hrd j ent kv hj hq).1.mono hkeep fun _ h=>h,(hrd j ent kv hj hq).2.mono hkeep fun _ h=>h⟩
    ·rename_i hlt;rw [if_neg hlt] at hq
     exact ⟨(hrd (j+1) ent kv hj hq).1.mono hkeep fun _ h=>h,(hrd (j+1) ent kv hj hq).2.mono hkeep fun _ h=>h⟩
   ·intro kv hc
    cases hc
    exact ⟨e,(wK.1 (z6 hi)).1,by simp,r1.mono hkeep fun _ h=>h,r2.mono hkeep fun _ h=>h⟩
   ·refine .tup _ _ rfl fun j c hc=>?_
    match j,hc with
    | 0,hc=>simp at hc;subst hc;exact .rd (.bool _)
    | 1,hc=>simp at hc;subst hc;exact .rd (r1.mono hkeep fun _ h=>h)
    | 2,hc=>simp at hc;subst hc;exact .rd (r2.mono hkeep fun _ h=>h)
    | n+3,hc=>simp at hc
theorem g1h {xs:List Opd} (hok:a1j P .ent xs o.op=true) (hR:Rel P c g σ a w) (hob:∀id o,ob id=some o→find id σ.heap=some o) {d:Nat}
  (h:a2j .ent d (xs.map (·.ev σ.env)) ob K L) (hF:Fin o c g σ a w K L K'):o.wp P a w K' Q':=by
 obtain ⟨x,x',rfl,ho,hx⟩:∃x x',xs=[x]∧o.op=.entry x'∧x.ok x'=true:=by
  cases ho:o.op<;>rw [ho] at hok<;>try (simp [a1j] at hok;done)
  simp only [a1j] at hok
  split at hok
  ·exact ⟨_,_,rfl,rfl,hok⟩
  ·cases hok
 have vx:=Opd.vr hR hx
 simp only [wZ,vF] at h
 unfold a2j at h
 split at h<;>try (rename_i heq;simp at heq;done)
 all_goals try (rename_i e1 e2;cases e1;done)
 case h_15=>exact h.elim
 rename_i id e1 e2
 simp only [wP,and_true] at e2
 rw [e2] at vx
 split at h
 case h_2=>exact h.elim
 rename_i rem e hobj
 have hfd:=hob _ _ hobj
 obtain ⟨hnn,hit⟩:=hR.hp.obj _ _ hfd
 have hxe:=vx.ptr_inv
 rcases hit with ⟨q1,q2,q3,hb,_,hc⟩|⟨m,clock,seen,ents,hb,hS,hm,hold,hnd,hl,hrd,hcur⟩
 ·cases hc
 ·obtain ⟨ent,h1,h2,h3,h4⟩:=hcur e rfl
  have hf:ents.find? (·.born==ent.born)=some ent:=by rw [←Array.find?_toList];exact find_born ent ents.toList hnd h1
  have hrun:(Instr.entry (.pointer (some ⟨g.ρ id,0,none⟩))).run P w=.ok (.tuple #[ent.key,ent.val]) w:=by
   simp only [Instr.entry,getObj,w8,Sem.run,hb,hm,Result.andThen,h2,bne_self_eq_false,xL,if_false,hf]
   rfl
  refine a0b hR hF (v:=.tuple #[ent.key,ent.val]) ?_ (.inl h) ?_
  ·simp [execOp,ho,hxe,hrun]
  ·refine .tup _ _ rfl fun j c hc=>?_
   match j,hc with
   | 0,hc=>simp at hc;subst hc;exact .rd h3
   | 1,hc=>simp at hc;subst hc;exact .rd h4
   | n+2,hc=>simp at hc
theorem VR.ifc_inv {v:Value} {b:Bool} (h:VR g w v (.ifc b)):(v=.nilIface∧b=true)∨∃t p,v=.iface t p∧b=false:=by
 cases h with
 | rd h=>cases h with
  | ifcn=>exact .inl ⟨rfl,rfl⟩
  | ifcs t p=>exact .inr ⟨t,p,rfl,rfl⟩
theorem g0z {ng:Bool} {xs:List Opd} (hok:a1j P (.ifz ng) xs o.op=true) (hR:Rel P c g σ a w) {d:Nat}
  (h:a2j (.ifz ng) d (xs.map (·.ev σ.env)) ob K L) (hF:Fin o c g σ a w K L K'):o.wp P a w K' Q':=by
 obtain ⟨x,x',b,t,u,ms,rfl,ho,hx,hbn,hu⟩:∃x x' b t u ms,xs=[x]∧o.op=.binOp b t x' (.const .nilIface) u∧x.ok x'=true∧(b=.eql∧ng=false∨b=.neq∧ng=true)∧P.underlying t=some (.interface ms):=by
  cases ho:o.op<;>rw [ho] at hok<;>try (simp [a1j] at hok;done)
  rename_i b t x' y' u
  simp only [a1j,wE] at hok
  obtain ⟨⟨⟨h1,h2⟩,h3⟩,h4⟩:=hok
  split at h1
  ·split at h3
   ·split at h4
    ·rename_i ms he
     refine ⟨_,_,_,_,_,ms,rfl,rfl,h1,?_,he⟩
     split at h2
     ·exact .inl ⟨rfl,by simpa using h2⟩
     ·exact .inr ⟨rfl,h2⟩
     ·cases h2
    ·cases h4
   ·cases h3
  ·cases h1
 have vx:=Opd.vr hR hx
 have hm:P.underlying t=some (.interface (P.methodsAt t)):=by
  rw [hu];simp [Program.methodsAt,hu]
 simp only [wZ,vF] at h
 unfold a2j at h
 split at h<;>try (rename_i heq;simp at heq;done)
 all_goals try (rename_i e1 e2;cases e1;done)
 case h_15=>exact h.elim
 rename_i ng' b' e1 e2
 cases e1
 simp only [wP,and_true] at e2
 rw [e2] at vx
 have ec:a.eval (.const .nilIface)=.nilIface:=rfl
 rcases vx.ifc_inv with ⟨hv,rfl⟩|⟨tt,p,hv,rfl⟩
 ·rcases hbn with ⟨rfl,rfl⟩|⟨rfl,rfl⟩
  ·refine a0b hR hF (v:=.bool true) ?_ (.inl h) (.rd (.bool _))
   simp [execOp,ho,hv,ec,eqGuard,run_eql_nil_nil _ t hm]
  ·refine a0b hR hF (v:=.bool false) ?_ (.inl h) (.rd (.bool _))
   simp [execOp,ho,hv,ec,eqGuard,run_neq_nil_nil _ t hm]
 ·rcases hbn with ⟨rfl,rfl⟩|⟨rfl,rfl⟩
  ·refine a0b hR hF (v:=.bool false) ?_ (.inl h) (.rd (.bool _))
   simp [execOp,ho,hv,ec,eqGuard,run_eql_held_nil _ t tt p hm]
  ·refine a0b hR hF (v:=.bool true) ?_ (.inl h) (.rd (.bool _))
   simp [execOp,ho,hv,ec,eqGuard,run_neq_held_nil _ t tt p hm]
theorem VR.nilf_inv {v:Value} (h:VR g w v .nilf):v=.nilFunc:=by
 cases h with|rd h=>cases h;rfl
theorem c2t (d:Nat) {t:TypeId} {p1 p2 p3} (hu:P.underlying t=some (.func p1 p2 p3)) (f:Fn) (a b:Array Value):(Op.equalIn (d+1) t (.func f a b) .nilFunc).run P w=.ok false w:=by
 simp [Op.equalIn,run_underlying hu]
theorem c2s (d:Nat) {t:TypeId} {p1 p2 p3} (hu:P.underlying t=some (.func p1 p2 p3)):(Op.equalIn (d+1) t .nilFunc .nilFunc).run P w=.ok true w:=by
 simp [Op.equalIn,run_underlying hu]
theorem c4l {t:TypeId} {p1 p2 p3} (hu:P.underlying t=some (.func p1 p2 p3)) (f:Fn) (a b:Array Value):(Go.binOp .eql t (.func f a b) .nilFunc).run P w=.ok (.bool false) w:=by
 show (do pure (Value.bool (←Op.equalIn (9999+1) t (.func f a b) .nilFunc)):Sem Value).run P w=_
 simp only [w8,c2t 9999 hu,xN,w7]
theorem c4k {t:TypeId} {p1 p2 p3} (hu:P.underlying t=some (.func p1 p2 p3)) (f:Fn) (a b:Array Value):(Go.binOp .neq t (.func f a b) .nilFunc).run P w=.ok (.bool true) w:=by
 show (do pure (Value.bool (!(←Op.equalIn (9999+1) t (.func f a b) .nilFunc))):Sem Value).run P w=_
 simp only [w8,c2t 9999 hu,xN,w7,wV]
theorem c4j {t:TypeId} {p1 p2 p3} (hu:P.underlying t=some (.func p1 p2 p3)):(Go.binOp .eql t .nilFunc .nilFunc).run P w=.ok (.bool true) w:=by
 show (do pure (Value.bool (←Op.equalIn (9999+1) t .nilFunc .nilFunc)):Sem Value).run P w=_
 simp only [w8,c2s 9999 hu,xN,w7]
theorem c4i {t:TypeId} {p1 p2 p3} (hu:P.underlying t=some (.func p1 p2 p3)):(Go.binOp .neq t .nilFunc .nilFunc).run P w=.ok (.bool false) w:=by
 show (do pure (Value.bool (!(←Op.equalIn (9999+1) t .nilFunc .nilFunc))):Sem Value).run P w=_
 simp only [w8,c2s 9999 hu,xN,w7,w4]
theorem g1d {ng:Bool} {xs:List Opd} (hok:a1j P (.fnz ng) xs o.op=true) (hR:Rel P c g σ a w) {d:Nat}
  (h:a2j (.fnz ng) d (xs.map (·.ev σ.env)) ob K L) (hF:Fin o c g σ a w K L K'):o.wp P a w K' Q':=by
 obtain ⟨x,x',b,t,u,p1,p2,p3,rfl,ho,hx,hbn,hu⟩:∃x x' b t u p1 p2 p3,xs=[x]∧o.op=.binOp b t x' (.const .nilFunc) u∧x.ok x'=true∧(b=.eql∧ng=false∨b=.neq∧ng=true)∧P.underlying t=some (.func p1 p2 p3):=by
  cases ho:o.op<;>rw [ho] at hok<;>try (simp [a1j] at hok;done)
  rename_i b t x' y' u
  simp only [a1j,wE] at hok
  obtain ⟨⟨⟨h1,h2⟩,h3⟩,h4⟩:=hok
  split at h1
  ·split at h3
   ·split at h4
    ·rename_i p1 p2 p3 he
     refine ⟨_,_,_,_,_,p1,p2,p3,rfl,rfl,h1,?_,he⟩
     split at h2
     ·exact .inl ⟨rfl,by simpa using h2⟩
     ·exact .inr ⟨rfl,h2⟩
     ·cases h2
    ·cases h4
   ·cases h3
  ·cases h1
 have vx:=Opd.vr hR hx
 simp only [wZ,vF] at h
 have h:e2n ng (x.ev σ.env) K:=h
 have ec:a.eval (.const .nilFunc)=.nilFunc:=rfl
 unfold e2n at h
 split at h
 ·rename_i e
  rw [e] at vx
  have hv:=vx.nilf_inv
  refine a0b hR hF (v:=.bool (!ng)) ?_ (.inl h) (.rd (.bool _))
  rcases hbn with ⟨rfl,rfl⟩|⟨rfl,rfl⟩<;>simp [execOp,ho,hv,ec,eqGuard,c4j hu,c4i hu]
 ·rename_i f cs e
  rw [e] at vx
  obtain ⟨vs,hv,_⟩:=vx.fn_inv
  refine a0b hR hF (v:=.bool ng) ?_ (.inl h) (.rd (.bool _))
  rcases hbn with ⟨rfl,rfl⟩|⟨rfl,rfl⟩<;>simp [execOp,ho,hv,ec,eqGuard,c4l hu,c4k hu]
 ·exact h.elim
theorem a09.congrH {H H':Heap} {e:Eff} {g':Gh} {w':World} (h:a09 g H w e g' w') (hd:∀i o,find i H=some o→∃o',find i H'=some o') (hd':∀i o,find i H'=some o→∃o',find i H=some o'):a09 g H' w e g' w':=by
 refine ⟨h.os,h.tape,h.output,h.size,fun b hb hn=>h.keep b hb fun i o hi ho=>?_,h.sup,fun b hb=>?_,h.slt,h.agree,h.obj,fun i o hi hn=>?_,h.inj,h.sep⟩
 ·obtain ⟨o',ho'⟩:=hd i o ho
  exact hn i o' hi ho'
 ·rcases h.sub b hb with h1|h1|⟨i,o,h1,h2,h3⟩
  ·exact .inl h1
  ·exact .inr (.inl h1)
  ·obtain ⟨o',ho'⟩:=hd i o h2
   exact .inr (.inr ⟨i,o',h1,ho',h3⟩)
 ·rcases h.blk i o hi hn with h1|⟨j,o1,h1,h2,h3⟩
  ·exact .inl h1
  ·obtain ⟨o',ho'⟩:=hd j o1 h2
   exact .inr ⟨j,o',h1,ho',h3⟩
theorem Rel.cutR {id k m:Nat} {xs:List V} {t:Option TypeId} (h:Rel P c g σ a w) (hf:find id σ.heap=some (.arr k xs t)):Rel P c g ⟨σ.env,Go.Ab.put id (.arr k (xs.take m) t) σ.heap⟩ a w:=by
 have dom:∀n o,find n (Go.Ab.put id (.arr k (xs.take m) t) σ.heap)=some o→∃o',find n σ.heap=some o':=fun n o hn=>by
  rw [a10] at hn
  split at hn
  ·rename_i e;subst e;exact ⟨_,hf⟩
  ·exact ⟨_,hn⟩
 refine ⟨h.size,h.dfr,h.env,⟨fun n o hn=>?_,fun i j o o' hi hj=>?_,fun n o hn=>?_,h.hp.lt,h.hp.tabs⟩,⟨h.fr.os,h.fr.tape,h.fr.output,h.fr.size,h.fr.old,fun n o hn=>?_,h.fr.sup,h.fr.sub,h.fr.par⟩⟩
 ·rw [a10] at hn
  split at hn
  ·rename_i e;subst e;cases hn
   rcases h.hp.obj _ _ hf with ⟨h1,rfl⟩|⟨h1,k1,⟨cur,e,fz,h2,h3,h4,h5⟩,h6,h7,h8⟩
   ·exact .inl ⟨h1,by simp⟩
   ·refine .inr ⟨h1,k1,⟨cur,e,fz,h2,h3,h4,fun i j x y hx hy=>h5 i j x y ?_ hy⟩,?_,h7,fun x hx=>h8 x (List.mem_of_mem_take hx)⟩
    ·rw [xI] at hx
     split at hx
     ·exact hx
     ·cases hx
    ·rw [xZ];omega
  ·exact h.hp.obj n o hn
 ·obtain ⟨o1,h1⟩:=dom i o hi
  obtain ⟨o2,h2⟩:=dom j o' hj
  exact h.hp.inj i j o1 o2 h1 h2
 ·obtain ⟨o1,h1⟩:=dom n o hn
  exact h.hp.sep n o1 h1
 ·obtain ⟨o1,h1⟩:=dom n o hn
  exact h.fr.own n o1 h1
theorem g1n {q bytes:Nat} {xs:List Opd} (hok:a1j P (.apc q bytes) xs o.op=true) (hR:Rel P c g σ a w) (hob:∀id o,ob id=some o→find id σ.heap=some o) {d:Nat} (hcl:Clean c σ d)
  (h:a2j (.apc q bytes) d (xs.map (·.ev σ.env)) ob K L) (hF:Fin o c g σ a w K L K'):o.wp P a w K' Q':=by
 obtain ⟨x,y,rfl,hok2⟩:∃x y,xs=[x,y]∧(a0a.app q bytes x y none).ok P o.op=true:=by
  cases ho:o.op<;>rw [ho] at hok<;>try (simp [a1j] at hok;done)
  rename_i cl
  obtain ⟨callee,args,ts⟩:=cl
  cases callee<;>try (simp [a1j] at hok;done)
  rename_i b
  cases b<;>try (simp [a1j] at hok;done)
  simp only [a1j] at hok
  split at hok
  ·rename_i u v t t' he het
   exact ⟨_,_,rfl,by simp only [a0a.ok,he,het];exact hok⟩
  ·cases hok
 simp only [wZ,vF] at h
 unfold a2j at h
 split at h<;>try (rename_i heq;simp at heq;done)
 all_goals try (rename_i e1 e2;cases e1;done)
 case h_15=>exact h.elim
 rename_i q' bytes' id k' lo n y' e1 e2
 cases e1
 simp only [wP,and_true] at e2
 obtain ⟨e2,e3⟩:=e2
 subst e3
 split at h
 case h_2=>exact h.elim
 rename_i ys hsrc
 obtain ⟨hvl,h⟩:=h
 split at h
 case h_2=>exact h.elim
 rename_i k'' zs t0 hobj
 cases hkk:Nat.beq q k'&&Nat.beq q k''&&!(y.ev σ.env).has id with
 | false=>rw [hkk] at h;exact h.elim
 | true =>
 rw [hkk] at h
 simp only [wE,xV] at hkk
 obtain ⟨⟨hk1,hk2⟩,hyn⟩:=hkk
 have:=zR hk1;subst this
 have:=zR hk2;subst this
 obtain ⟨⟨hrm,hye⟩,hK⟩:=h
 obtain ⟨hlo,hbd⟩:=b8n.1 hrm
 rw [show ((zs.drop lo).take n++ys).length=n+ys.length by simp;omega] at hK
 have hfd:=hob _ _ hobj
 have hR':=hR.cutR (m:=lo+n) hfd
 have dom1:∀i o',find i (Go.Ab.put id (.arr q (zs.take (lo+n)) t0) σ.heap)=some o'→∃o1,find i σ.heap=some o1:=fun i o' hi=>by
  rw [a10] at hi
  split at hi
  ·rename_i e;subst e;exact ⟨_,hfd⟩
  ·exact ⟨_,hi⟩
 have dom2:∀i o',find i σ.heap=some o'→∃o1,find i (Go.Ab.put id (.arr q (zs.take (lo+n)) t0) σ.heap)=some o1:=fun i o' hi=>by
  rw [a10]
  split
  ·exact ⟨_,rfl⟩
  ·exact ⟨_,hi⟩
 have hsrc':a7i q (y.ev σ.env) (fun i=>find i (Go.Ab.put id (.arr q (zs.take (lo+n)) t0) σ.heap))=some ys:=by
  cases hy:y.ev σ.env with
  | osl j k2 l2 n2 =>
   rw [hy] at hsrc hyn
   have hj:j≠id:=fun e=>by subst e;simp [V.has,vC] at hyn
   simp only [a7i] at hsrc ⊢
   split at hsrc
   ·rename_i k3 ys3 t3 hoj
    have:=hob _ _ hoj
    simp only [a10,hj,if_false,this];exact hsrc
   ·cases hsrc
  | _=>rw [hy] at hsrc;exact hsrc
 have hcl':Clean c ⟨σ.env,Go.Ab.put id (.arr q (zs.take (lo+n)) t0) σ.heap⟩ d:=by
  refine ⟨hcl.1,hcl.2.1,?_⟩
  have:∀{H:Heap},a1h d H=true→a1h d (Go.Ab.put id (.arr q (zs.take (lo+n)) t0) H)=true:=by
   intro H
   induction H with
   | nil=>intro _;simp [Go.Ab.put,a1h,a0i.has]
   | cons p r ih =>
    obtain ⟨m,x⟩:=p
    intro hh
    simp only [a1h,wE] at hh
    simp only [Go.Ab.put]
    cases Nat.beq id m with
    | true=>simp [a1h,a0i.has,hh.2]
    | false=>simp only [vM,a1h,wE];exact ⟨hh.1,ih hh.2⟩
  exact this hcl.2.2
 have hdl:(zs.take (lo+n)).drop lo=(zs.drop lo).take n:=by rw [List.drop_take];congr 1;omega
 refine e4x (σ:=⟨σ.env,Go.Ab.put id (.arr q (zs.take (lo+n)) t0) σ.heap⟩) (K:=fun e=>e=⟨.osl d q 0 (n+ys.length),[id],[(d,.arr q ((zs.drop lo).take n++ys))]⟩) (L:=fun _=>False) hok2 hR' (ob:=fun i=>find i (Go.Ab.put id (.arr q (zs.take (lo+n)) t0) σ.heap)) (fun _ _ h=>h) hcl' ?_ ?_
 ·simp only [p9,c2r,hsrc']
  simp only [e2,a10,if_true,vC,w6,vO]
  refine ⟨hvl,⟨by rw [xZ];omega,hbd,hye⟩,?_⟩
  rw [hdl]
  cases t0<;>rfl
 ·intro eff hk g' v w' hs hf hv
  rcases hk with rfl|hk
  case inr=>exact hk.elim
  refine hF _ (.inl hK) g' v w' (hs.congrH dom1 dom2) (fun i o' hi=>?_) hv
  rcases hf i o' hi with h1|⟨h1,h2,h3⟩
  ·exact .inl h1
  ·refine .inr ⟨h1,h2,fun n2 o2 hn2 hne=>?_⟩
   by_cases e:n2=id
   ·subst e;rw [hfd] at hn2;cases hn2;rfl
   ·exact h3 n2 o2 (by simp only [a10,e,if_false];exact hn2) hne
theorem g9v {m:c0c} {xs:List Opd} (hok:(a0a.mp m xs).ok P o.op=true) (hR:Rel P c g σ a w) (hob:∀id o,ob id=some o→find id σ.heap=some o) {d:Nat} (hcl:∀n∈(a0a.mp m xs).creates d,Clean c σ n)
  (h:p9 P (.mp m xs) d (xs.map (·.ev σ.env)) ob K L) (hF:Fin o c g σ a w K L K'):o.wp P a w K' Q':=by
 have hok':a1j P m xs o.op=true:=by
  cases ho:o.op<;>simpa only [a0a.ok,ho] using hok
 have h':a2j m d (xs.map (·.ev σ.env)) ob K L:=h
 cases m with
 | mk kd=>exact g9x hok' hR (hcl d (by simp [a0a.creates])) h' hF
 | lku kd ok z=>exact g0v hok' hR hob h' hF
 | up kd=>exact g9s hok' hR hob h' hF
 | del kd=>exact g1i hok' hR hob h' hF
 | len=>exact e4s hok' hR hob h' hF
 | rng=>exact g0p hok' hR (hcl d (by simp [a0a.creates])) h' hF
 | nxt=>exact g0q hok' hR hob h' hF
 | ent=>exact g1h hok' hR hob h' hF
 | isn ng=>exact g0y hok' hR h' hF
 | tab i=>exact g0m hok' hR h' hF
 | ups kd=>exact g0l hok' hR hob h' hF
 | ifz ng=>exact g0z hok' hR h' hF
 | fnz ng=>exact g1d hok' hR h' hF
 | apc k bytes=>exact g1n hok' hR hob (hcl d (by simp [a0a.creates])) h' hF
end
section
variable {P:Program} {o:Oper} {c:Ctx} {g:Gh} {σ:St} {a:Act} {w:World} {ob:Nat→Option a0i} {K L:Eff→Prop} {K':Act→World→Prop} {Q':Exit→Act→World→Prop}
theorem b3b:∀{ids:List Nat} {H:Heap},b8f ids ob=some H→H.map (·.1)=ids∧∀id o,find id H=some o→ob id=some o∧id∈ids
 | [],H,h=>by simp [b8f] at h;subst h;exact ⟨rfl,fun id o h=>by simp [find] at h⟩
 | n :: r,H,h=>by
  simp only [b8f] at h
  split at h
  ·rename_i o ho
   cases hr:b8f r ob with
   | none=>rw [hr] at h;cases h
   | some H' =>
    rw [hr] at h
    simp at h;subst h
    obtain ⟨h1,h2⟩:=b3b hr
    refine ⟨by simp [h1],fun id o' h=>?_⟩
    by_cases e:id=n
    ·subst e
     simp [find] at h;subst h
     exact ⟨ho,xG⟩
    ·have:Nat.beq id n=false:=by
      cases hb:Nat.beq id n with
      | true=>exact absurd (zR hb) e
      | false=>rfl
     simp only [find,this,vM] at h
     obtain ⟨h3,h4⟩:=h2 id o' h
     exact ⟨h3,xA _ h4⟩
  ·cases h
theorem b8e {ids:List Nat} {H:Heap} (h:b8f ids ob=some H) {id:Nat} (hid:id∈ids):∃o,find id H=some o:=by
 have h1:=(b3b h).1
 rw [←h1] at hid
 clear h h1
 induction H with
 | nil=>simp at hid
 | cons p H ih =>
  obtain ⟨m,o⟩:=p
  by_cases e:Nat.beq id m=true
  ·exact ⟨o,by simp [find,e]⟩
  ·have hne:¬id=m:=fun h=>e (by rw [h];exact vC m)
   simp only [wZ,wY] at hid
   obtain ⟨o',ho'⟩:=ih (hid.resolve_left hne)
   have e':Nat.beq id m=false:=by
    cases hb:Nat.beq id m with
    | true=>exact absurd hb e
    | false=>rfl
   exact ⟨o',by simp only [find,e',vM];exact ho'⟩
theorem c1i {n:Nat}:∀{l:List Nat},mem n l=true→n∈l
 | [],h=>by simp [mem] at h
 | m::r,h=>by
  simp only [mem,wR] at h
  rcases h with h|h
  ·have:=zR h;subst this;exact xG
  ·exact xA _ (c1i h)
theorem b4l:∀{H:Heap} {ids news:List Nat},b1q H ids news=true→(∀id o,(id,o)∈H→id∈ids∨id∈news)∧∀id o,(id,o)∈H→find id H=some o
 | [],_,_,_=>⟨fun _ _ h=>by simp at h,fun _ _ h=>by simp at h⟩
 | (n,o1)::r,ids,news,h=>by
  simp only [b1q,wE,wR] at h
  obtain ⟨⟨h1,h2⟩,h3⟩:=h
  obtain ⟨k1,k2⟩:=b4l h3
  refine ⟨fun id o ho=>?_,fun id o ho=>?_⟩
  ·rcases wY.1 ho with ho|ho
   ·cases ho
    exact h1.imp c1i c1i
   ·exact k1 id o ho
  ·rcases wY.1 ho with ho|ho
   ·cases ho;simp [find]
   ·have:=k2 id o ho
    by_cases e:id=n
    ·subst e
     rw [this] at h2;cases h2
    ·have e':Nat.beq id n=false:=by
      cases hb:Nat.beq id n with
      | true=>exact absurd (zR hb) e
      | false=>rfl
     simp only [find,e',vM];exact this
theorem a3p.sub {H H':Heap} (h:a3p P g w H) (hs:∀id o,find id H'=some o→find id H=some o):a3p P g w H' :=
 ⟨fun id o ho=>h.obj id o (hs id o ho),fun i j o o' hi hj=>h.inj i j o o' (hs i o hi) (hs j o' hj),fun id o ho=>h.sep id o (hs id o ho),h.lt,h.tabs⟩
theorem VR.bnd_inv {v:Value} {n:Nat} {cs:List V} (h:VR g w v (.fn (.yield n) cs)):∃vs:Array Value,v=.func (.func n) vs #[]∧vs.size=cs.length∧∀(i:Nat) (c:V),cs[i]?=some c→VR g w (vs.getD i undef) c:=by
 cases h with
 | rd h=>cases h
 | bnd n vs _ hl hr=>exact ⟨vs,rfl,hl,hr⟩
theorem s_call {f:Opd} {args:List Opd} {ids news:List Nat} (hok:(a0a.call f args ids news).ok P o.op=true) (hR:Rel P c g σ a w) (hob:∀id o,ob id=some o→find id σ.heap=some o) {d:Nat} (hcl:∀n∈news,Clean c σ n)
  (h:p9 P (.call f args ids news) d (f.ev σ.env::args.map (·.ev σ.env)) ob K L) (hF:Fin o c g σ a w K L K'):o.wp P a w K' Q':=by
 have:∃cl f',o.op=.call cl∧cl.callee=.value f'∧f.ok f'=true∧b04 args cl.args.toList=true:=by
  cases ho:o.op<;>rw [ho] at hok<;>try (simp [a0a.ok] at hok;done)
  rename_i cl
  obtain ⟨callee,args',ts⟩:=cl
  cases callee<;>try (simp [a0a.ok] at hok;done)
  simp only [a0a.ok,wE] at hok
  exact ⟨_,_,rfl,rfl,hok.1,hok.2⟩
 obtain ⟨cl,f',ho,hcal,hf,hargs⟩:=this
 have vf:=Opd.vr hR hf
 obtain ⟨hal,hav⟩:=c1f hR hargs
 simp only [p9,b2x] at h
 split at h
 ·rename_i n cap hfn
  rw [hfn] at vf
  obtain ⟨vs,ef,hvl,hvr⟩:=vf.fn_inv
  split at h
  ·rename_i H hH
   obtain ⟨hcb,hcall⟩:=h
   obtain ⟨hdom,hsub⟩:=b3b hH
   have hHR:a3p P g w H:=hR.hp.sub fun id o ho=>hob id o (hsub id o ho).1
   have hAargs:=hcall g w (cl.args.map a.eval++vs) hHR (by simp [hal,hvl]) (fun i x hi=>by
    rw [List.getElem?_append] at hi
    simp only [wN] at hi
    by_cases hlt:i<args.length
    ·rw [if_pos hlt] at hi
     have:=hav i x hi
     have e1:(cl.args.map a.eval++vs).getD i undef=(cl.args.toList.map a.eval).getD i undef:=by
      have:i<cl.args.size:=by simpa [hal] using hlt
      simp [zC,zY,this]
     rw [e1];exact this
    ·rw [if_neg hlt] at hi
     have:=hvr (i - args.length) x hi
     have hsz:args.length=cl.args.size:=by simpa using hal
     have e1:(cl.args.map a.eval++vs).getD i undef=vs.getD (i - args.length) undef:=by
      simp [zC,zY,←hsz,hlt]
     rw [e1];exact this)
   have hrun:(execOp a.eval o).run P w=.ok (.enter n (cl.args.map a.eval++vs)) w:=by
    unfold callable at hcb
    split at hcb
    ·rename_i fn hfn'
     simp only [wE,xV] at hcb
     have hb:fn.body.isNone=false:=by
      cases hbo:fn.body with
      | none=>rw [hbo] at hcb;exact absurd hcb.2 (by simp)
      | some _=>rfl
     have hnm:¬fn.name = "runtime.NumGoroutine":=by simpa using hcb.1
     have hbb:¬fn.body=none:=by intro h;rw [h] at hb;cases hb
     simp [execOp,ho,resolve,hcal,ef,Deferred.ofValue,invoke,callFunc,hfn',hnm,hbb]
    ·cases hcb
   unfold Oper.wp
   rw [hrun]
   refine hAargs.mono ?_
   rintro e w' ⟨v,r,H',g',rfl,hq,hH',hv,hfr,hgh⟩
   by_cases hin:b1q H' ids news=true
   case neg=>simp [hin] at hq
   simp only [hin,vO] at hq
   obtain ⟨k1,k2⟩:=b4l hin
   have hids:∀id∈ids,∃o,find id H=some o:=fun id hid=>b8e hH hid
   have hdomf:∀id o,find id H=some o→id∈ids∧find id σ.heap=some o:=fun id o ho=>⟨(hsub id o ho).2,hob id o (hsub id o ho).1⟩
   have hM:∀b,(⟨w,g,H,0,[],[],H,g,w⟩:Ctx).M b→∃id o,id∈ids∧find id σ.heap=some o∧¬g.nil id∧g.ρ id=b:=by
    rintro b ⟨id,o,h1,h2,h3⟩
    exact ⟨id,o,(hdomf id o h1).1,(hdomf id o h1).2,h2,h3⟩
   have hmemE:∀id,id∈ids→id∈(Eff.mk r ids H').ids:=fun id hid=>by simp [Eff.ids,hid]
   refine hF ⟨r,ids,H'⟩ (.inr hq) g' v w' ⟨hfr.os,hfr.tape,hfr.output,hfr.size,fun b hb hb'=>hfr.old b hb fun hm=>?_,fun b hb=>hfr.sup b (.inl hb),fun b hb=>?_,hH'.lt,fun id hid=>hgh id ?_,fun id o ho=>hH'.obj id o (k2 id o ho),fun id o ho hn=>?_,
    fun i j o o' hi hj hni hnj=>hH'.inj i j o o' (k2 i o hi) (k2 j o' hj) hni hnj,fun id o ho hn=>hH'.sep id o (k2 id o ho) hn⟩ (fun id o ho=>?_) hv
   ·obtain ⟨id,o,h1,h2,h3,h4⟩:=hM b hm
    exact hb' id o (hmemE id h1) h2 h3 h4
   ·rcases (hfr.sub b hb).1 with h1|h1|h1
    ·exact .inl h1
    ·exact .inr (.inl h1)
    ·obtain ⟨id,o,h2,h3,h4,h5⟩:=hM b h1
     exact .inr (.inr ⟨id,o,hmemE id h2,h3,h4,h5⟩)
   ·cases hfd:find id H' with
    | none=>rfl
    | some o=>exact absurd (mem_of_find hfd) (hid o)
   ·rcases (hfr.own id o (k2 id o ho) hn).1 with h1|h1
    ·exact .inl h1
    ·obtain ⟨id',o',h2,h3,h4,h5⟩:=hM _ h1
     exact .inr ⟨id',o',hmemE id' h2,h3,h4,h5⟩
   ·rcases k1 id o ho with h1|h1
    ·obtain ⟨o',ho'⟩:=hids id h1
     exact .inl (hfr.par id o' ho')
    ·exact .inr ⟨(hcl id h1).1,fun s x hx=>a3l (hcl id h1).2.1 hx,fun m o' hm _=>a3k (hcl id h1).2.2 hm⟩
  ·exact h.elim
 ·rename_i n cap hfn
  rw [hfn] at vf
  obtain ⟨vs,ef,hvl,hvr⟩:=vf.bnd_inv
  split at h
  ·rename_i H hH
   obtain ⟨hcb,hcall⟩:=h
   obtain ⟨hdom,hsub⟩:=b3b hH
   have hHR:a3p P g w H:=hR.hp.sub fun id o ho=>hob id o (hsub id o ho).1
   have hAargs:=hcall g w (vs++cl.args.map a.eval) hHR (by simp [hal,hvl]) (fun i x hi=>by
    rw [List.getElem?_append] at hi
    by_cases hlt:i<cap.length
    ·rw [if_pos hlt] at hi
     have:=hvr i x hi
     have e1:(vs++cl.args.map a.eval).getD i undef=vs.getD i undef:=by
      have:i<vs.size:=by rw [hvl];exact hlt
      simp [zC,zY,this]
     rw [e1];exact this
    ·rw [if_neg hlt] at hi
     have:=hav (i - cap.length) x hi
     have e1:(vs++cl.args.map a.eval).getD i undef=(cl.args.toList.map a.eval).getD (i - cap.length) undef:=by
      simp [zC,zY,hvl,hlt]
     rw [e1];exact this)
   have hrun:(execOp a.eval o).run P w=.ok (.enter n (vs++cl.args.map a.eval)) w:=by
    unfold callable at hcb
    split at hcb
    ·rename_i fn hfn'
     simp only [wE,xV] at hcb
     have hb:fn.body.isNone=false:=by
      cases hbo:fn.body with
      | none=>rw [hbo] at hcb;exact absurd hcb.2 (by simp)
      | some _=>rfl
     have hnm:¬fn.name = "runtime.NumGoroutine":=by simpa using hcb.1
     have hbb:¬fn.body=none:=by intro h;rw [h] at hb;cases hb
     simp [execOp,ho,resolve,hcal,ef,Deferred.ofValue,invoke,callFunc,hfn',hnm,hbb]
    ·cases hcb
   unfold Oper.wp
   rw [hrun]
   refine hAargs.mono ?_
   rintro e w' ⟨v,r,H',g',rfl,hq,hH',hv,hfr,hgh⟩
   by_cases hin:b1q H' ids news=true
   case neg=>simp [hin] at hq
   simp only [hin,vO] at hq
   obtain ⟨k1,k2⟩:=b4l hin
   have hids:∀id∈ids,∃o,find id H=some o:=fun id hid=>b8e hH hid
   have hdomf:∀id o,find id H=some o→id∈ids∧find id σ.heap=some o:=fun id o ho=>⟨(hsub id o ho).2,hob id o (hsub id o ho).1⟩
   have hM:∀b,(⟨w,g,H,0,[],[],H,g,w⟩:Ctx).M b→∃id o,id∈ids∧find id σ.heap=some o∧¬g.nil id∧g.ρ id=b:=by
    rintro b ⟨id,o,h1,h2,h3⟩
    exact ⟨id,o,(hdomf id o h1).1,(hdomf id o h1).2,h2,h3⟩
   have hmemE:∀id,id∈ids→id∈(Eff.mk r ids H').ids:=fun id hid=>by simp [Eff.ids,hid]
   refine hF ⟨r,ids,H'⟩ (.inr hq) g' v w' ⟨hfr.os,hfr.tape,hfr.output,hfr.size,fun b hb hb'=>hfr.old b hb fun hm=>?_,fun b hb=>hfr.sup b (.inl hb),fun b hb=>?_,hH'.lt,fun id hid=>hgh id ?_,fun id o ho=>hH'.obj id o (k2 id o ho),fun id o ho hn=>?_,
    fun i j o o' hi hj hni hnj=>hH'.inj i j o o' (k2 i o hi) (k2 j o' hj) hni hnj,fun id o ho hn=>hH'.sep id o (k2 id o ho) hn⟩ (fun id o ho=>?_) hv
   ·obtain ⟨id,o,h1,h2,h3,h4⟩:=hM b hm
    exact hb' id o (hmemE id h1) h2 h3 h4
   ·rcases (hfr.sub b hb).1 with h1|h1|h1
    ·exact .inl h1
    ·exact .inr (.inl h1)
    ·obtain ⟨id,o,h2,h3,h4,h5⟩:=hM b h1
     exact .inr (.inr ⟨id,o,hmemE id h2,h3,h4,h5⟩)
   ·cases hfd:find id H' with
    | none=>rfl
    | some o=>exact absurd (mem_of_find hfd) (hid o)
   ·rcases (hfr.own id o (k2 id o ho) hn).1 with h1|h1
    ·exact .inl h1
    ·obtain ⟨id',o',h2,h3,h4,h5⟩:=hM _ h1
     exact .inr ⟨id',o',hmemE id' h2,h3,h4,h5⟩
   ·rcases k1 id o ho with h1|h1
    ·obtain ⟨o',ho'⟩:=hids id h1
     exact .inl (hfr.par id o' ho')
    ·exact .inr ⟨(hcl id h1).1,fun s x hx=>a3l (hcl id h1).2.1 hx,fun m o' hm _=>a3k (hcl id h1).2.2 hm⟩
  ·exact h.elim
 ·exact h.elim
theorem f2s {t:TypeId} {cnt k:Nat} (h:d4i P t cnt k=true):∃e,P.underlying t=some (.array cnt e)∧∀w':World,(Go.sizeOf e).run P w'=.ok k w':=by
 unfold d4i at h
 split at h<;>try (cases h;done)
 rename_i n e hu
 simp only [wE] at h
 have:=zR h.1;subst this
 exact ⟨e,hu,b1e h.2⟩
theorem g1p {n:Option Nat} {k cnt:Nat} {x i:Opd} (hok:(a0a.aix n k cnt x i).ok P o.op=true) (hR:Rel P c g σ a w) {d:Nat} (h:p9 P (.aix n k cnt x i) d [x.ev σ.env,i.ev σ.env] ob K L) (hF:Fin o c g σ a w K L K'):o.wp P a w K' Q':=by
 have:∃t y z,o.op=.index t y z∧x.ok y=true∧i.ok z=true∧d4i P t cnt k=true∧(match P.underlying t with|some (.array _ e)=>decide (c41 P e=some n)|_=>false)=true:=by
  cases ho:o.op<;>rw [ho] at hok<;>try (simp [a0a.ok] at hok;done)
  simp only [a0a.ok,wE] at hok
  exact ⟨_,_,_,rfl,hok.1.1.1,hok.1.1.2,hok.1.2,hok.2⟩
 obtain ⟨t,y,z,ho,hx,hi,ht,hn⟩:=this
 obtain ⟨e,hu,hsz⟩:=f2s ht
 rw [hu] at hn
 simp only [xM] at hn
 have vx:=Opd.vr hR hx
 have vi:=Opd.vr hR hi
 simp only [p9,e2i] at h
 split at h
 ·rename_i cs kk m hc hm
  rw [hc] at vx;rw [hm] at vi
  obtain ⟨vs,hv,hl,hr⟩:=vx.agg_inv
  obtain ⟨ei,_⟩:=vi.int_inv
  obtain ⟨⟨h0,h1⟩,h⟩:=h
  obtain ⟨off,hoff⟩:∃off,off=m.toNat*k:=⟨_,rfl⟩
  rw [←hoff] at h
  obtain ⟨x',hk,hx'⟩:=c30 h
  rcases hx' with ⟨rfl,hx'⟩|⟨q,rfl,hq,rfl⟩
  ·have hlt:off<vs.size:=by rw [hl];exact (zG.1 hx').1
   refine a0b hR hF (v:=vs.getD off undef) ?_ (.inl hk) (hr off x' hx')
   simp [execOp,ho,Instr.index,run_underlying hu,ei,asIntOf,hv,Go.part,c04 hn w,zC,hlt,h0,h1,hsz w,←hoff]
  ·obtain ⟨h2,h3⟩:=c02 hn
   refine a0b hR hF (v:=.agg (vs.extract off (off+q))) ?_ (.inl hk) (.agg _ _ (by simp;omega) fun i p hi=>?_)
   ·have hkq:k=q:=by
     have a1:=hsz w
     rw [h3 w] at a1
     cases a1;rfl
    subst hkq
    simp [execOp,ho,Instr.index,run_underlying hu,ei,asIntOf,hv,Go.part,h2 w,h3 w,h0,h1,←hoff]
   ·rw [xI] at hi
    split at hi
    ·rename_i him
     have hi':cs[off+i]?=some p:=by simpa using hi
     have hq:=hr (off+i) p hi'
     have hlt:off+i<vs.size:=by rw [hl];exact (zG.1 hi').1
     have e1:(vs.extract off (off+q)).getD i undef=vs.getD (off+i) undef:=by
      have h3:i<min (off+q) vs.size - off:=by omega
      simp [zC,hlt,h3]
     rw [e1];exact hq
    ·cases hi
 ·exact h.elim
theorem b2s {k:Nat}:∀{vs:List V} {n i:Nat} {q:Nat×Nat×V},(a2o k n vs)[i]?=some q→∃x,vs[i]?=some x∧q=((n+i)*k,k,x)
 | [],n,i,q,h=>by simp [a2o] at h
 | x::r,n,i,q,h=>by
  cases i with
  | zero=>simp [a2o] at h;exact ⟨x,rfl,h.symm⟩
  | succ i =>
   simp [a2o] at h
   obtain ⟨y,h1,h2⟩:=b2s h
   exact ⟨y,by simpa using h1,by rw [h2];congr 2;omega⟩
theorem b2r {k:Nat}:∀{vs:List V} {n:Nat},(a2o k n vs).length=vs.length
 | [],_=>rfl
 | x::r,n=>by simp [a2o,b2r]
theorem e4w {k:Nat} {zs:List V} {xs:List Opd} (hok:(a0a.barr k zs xs).ok P o.op=true) (hR:Rel P c g σ a w) {d:Nat} (h:p9 P (.barr k zs xs) d (xs.map (·.ev σ.env)) ob K L) (hF:Fin o c g σ a w K L K'):o.wp P a w K' Q':=by
 have:∃t parts n e,o.op=.build t parts∧a8x P t zs=true∧P.underlying t=some (.array n e)∧a5j P e k=true∧b5t 0 xs parts.toList=true:=by
  cases ho:o.op<;>rw [ho] at hok<;>try (simp [a0a.ok] at hok;done)
  rename_i t parts
  simp only [a0a.ok,wE] at hok
  obtain ⟨⟨h1,h2⟩,h3⟩:=hok
  split at h2<;>try (cases h2;done)
  rename_i n e hu
  exact ⟨t,parts,n,e,rfl,h1,hu,h2,h3⟩
 obtain ⟨t,parts,n,e,ho,hz,hu,hsz,hp⟩:=this
 obtain ⟨z,hzr,hzl,hzv⟩:=b71 hz
 obtain ⟨hlen,hparts⟩:=b4w hp
 simp only [p9] at h
 split at h
 ·rename_i cs hfill
  obtain ⟨cells',r1,r2,r3⟩:=b1u (g:=g) (w0:=w) (fun i=>some (i*k,k)) (parts.toList.map fun q=>(q.1,a.eval q.2)) (a2o k 0 (xs.map (·.ev σ.env))) z.cells zs cs (by simp [b2r,hlen])
   (fun i pt q hi hq=>by
    obtain ⟨x,h1,h2⟩:=b2s hq
    rw [xQ] at hi h1
    cases hpi:parts.toList[i]? with
    | none=>rw [hpi] at hi;cases hi
    | some p0 =>
     cases hqi:xs[i]? with
     | none=>rw [hqi] at h1;cases h1
     | some q0 =>
      rw [hpi] at hi;rw [hqi] at h1
      simp at hi h1;subst hi;subst h2
      obtain ⟨k1,k2⟩:=hparts i q0 p0 hqi hpi
      refine ⟨by simp [k1],?_⟩
      rw [←h1];exact Opd.vr hR k2)
   hzl (fun i x hx=>.rd (hzv g.S w i x hx).1) hfill
  have hbuild:(Instr.build t (parts.map fun (i,x)=>(i,a.eval x))).run P w=.ok (.agg cells') w:=by
   simp only [Instr.build,w8,hzr w,xN,run_underlying hu,b1e hsz w]
   have e2:(parts.map fun (i,x)=>(i,a.eval x)).toList=parts.toList.map fun q=>(q.1,a.eval q.2):=by simp
   rw [e2,r1]
   rfl
  refine a0b hR hF (v:=.agg cells') ?_ (.inl h) (.agg _ _ r2 r3)
  simp only [execOp,ho]
  exact a88 hbuild
 ·exact h.elim
theorem b94 (i:a0a) {d:Nat} (hok:i.ok P o.op=true) (hR:Rel P c g σ a w) (hob:∀id o,ob id=some o→find id σ.heap=some o) (hcl:∀n∈i.creates d,Clean c σ n)
  (h:p9 P i d (i.opds.map (·.ev σ.env)) ob K L) (hF:Fin o c g σ a w K L K'):o.wp P a w K' Q':=by
 cases i with
 | mv x=>exact g9u hok hR h hF
 | pick c a b=>exact e4r hok hR h hF
 | alloc zs=>exact d6m hok hR (hcl d (by simp [a0a.creates])) h hF
 | box x=>exact g1j hok hR (hcl d (by simp [a0a.creates])) h hF
 | build zs ps =>
  refine d6l (d:=d) (ob:=ob) (L:=L) (K:=K) hok hR ?_ hF
  have:ps.map (fun p=>p.2.2.ev σ.env)=(a0a.build zs ps).opds.map (·.ev σ.env):=by simp [a0a.opds]
  rw [this];exact h
 | bslice k xs uv=>exact c2o hok hR (hcl d (by simp [a0a.creates])) h hF
 | ld n a=>exact g9y hok hR hob h hF
 | st n a v=>exact g9t hok hR hob h hF
 | nck a=>exact g0t hok hR h hF
 | bin ch op x y=>exact g1l hok hR h hF
 | mask m x k=>exact e4v hok hR h hF
 | beq ng x y=>exact g1m hok hR h hF
 | eqs ng ks x y=>exact g1g hok hR h hF
 | not x=>exact g0r hok hR h hF
 | neg ch x=>exact g0s hok hR h hF
 | i2i ch k x=>exact g1c hok hR h hF
 | mkfn f cap=>exact e4u hok hR h hF
 | mksl k bytes z l c=>exact e4t hok hR (hcl d (by simp [a0a.creates])) h hF
 | sls x lo hi=>exact g0n hok hR h hF
 | slc k x lo hi=>exact g0o hok hR h hF
 | fad off x=>exact g1e hok hR h hF
 | iad k x i=>exact g1b hok hR h hF
 | idx x i=>exact g1a hok hR h hF
 | aix n k cnt x i=>exact g1p hok hR h hF
 | barr k zs xs=>exact e4w hok hR h hF
 | lsl k xs=>exact g0u hok hR h hF
 | ext i x=>exact g1f hok hR h hF
 | len s x=>exact g0w hok hR h hF
 | app k bytes x y=>exact e4x hok hR hob (hcl d (by simp [a0a.creates])) h hF
 | mm mx x y=>exact g9w hok hR h hF
 | mp m xs=>exact g9v hok hR hob hcl h hF
 | call f args ids news=>exact s_call hok hR hob (fun n hn=>hcl n (by simpa [a0a.creates] using hn)) h hF
end
def Lk (p:Prop):Prop:=p
theorem Lk.mk {p:Prop} (h:p):Lk p:=h
theorem Lk.out {p:Prop} (h:Lk p):p:=h
attribute [irreducible] Lk
structure MOp where
 ins:a0a
 dst:Option Nat
 guard:Option (Nat×Bool)
def d9t (nt:Nat):Option Nat→Option Nat→Bool
 | none,none=>true
 | some d,some d'=>Nat.beq d d'&&Nat.blt d nt
 | _,_=>false
def d0k:Bool→Bool→Bool
 | true,true=>true
 | false,false=>true
 | _,_=>false
theorem e0h {a b:Bool} (h:d0k a b=true):a=b:=by cases a<;>cases b<;>simp_all [d0k]
def a6z (ops:Array Oper):Option (Nat×Bool)→Option (Nat×Bool)→Bool
 | none,none=>true
 | some (s,b),some (j,b')=>d0k b b'&&(match ops[j]? with|some o=>(match o.dst with|some d=>Nat.beq s d|none=>false)|none=>false)
 | _,_=>false
def MOp.ok (P:Program) (nt:Nat) (ops:Array Oper) (m:MOp) (o:Oper):Bool:=m.ins.ok P o.op&&d9t nt m.dst o.dst&&a6z ops m.guard o.guard
def a1p (P:Program) (nt:Nat) (ops:Array Oper):List MOp→List Oper→Bool
 | [],[]=>true
 | m::r,o::s=>m.ok P nt ops o&&a1p P nt ops r s
 | _,_=>false
def a1k (H0:Heap) (σ:St):List Nat→Bool
 | []=>true
 | n::r=>(match find n H0 with|none=>true|some _=>false)&&a7u n σ.env&&a1h n σ.heap&&a1k H0 σ r
theorem a1t {c:Ctx} {σ:St}:∀{l:List Nat},a1k c.H0 σ l=true→∀n∈l,Clean c σ n
 | [],_,n,h=>by cases h
 | m::r,h,n,hm=>by
  simp only [a1k,wE] at h
  obtain ⟨⟨⟨h1,h2⟩,h3⟩,h4⟩:=h
  rcases wY.1 hm with rfl|hm
  ·refine ⟨?_,h2,h3⟩
   cases hf:find n c.H0 with
   | none=>rfl
   | some _=>rw [hf] at h1;cases h1
  ·exact a1t h4 n hm
def a7c (d:Option Nat) (env:List (Nat×V)):List (Nat×V) :=
 match d with
 | some d=>put d (.tup []) env
 | none=>env
def MOp.d (m:MOp):Nat:=m.dst.getD 0
def a4n (b want:Bool) (A B:Prop):Prop:=(b=want→A)∧(b=(!want)→B)
theorem b0a {A B:Prop}:a4n true true A B=A:=by simp [a4n]
theorem b7u {A B:Prop}:a4n true false A B=B:=by simp [a4n]
theorem b0b {A B:Prop}:a4n false true A B=B:=by simp [a4n]
theorem b7v {A B:Prop}:a4n false false A B=A:=by simp [a4n]
def b8m (P:Program) (H0:Heap) (m:MOp) (σ:St) (K:Eff→Prop):Prop :=
 bif a1k H0 σ (m.ins.creates m.d) then p9 P m.ins m.d (m.ins.opds.map (·.ev σ.env)) (fun id=>find id σ.heap) K (fun e=>Lk (K e)) else False
def b65 (P:Program) (H0:Heap) (m:MOp) (σ:St) (K:St→Prop):Prop :=
 match m.guard with
 | none=>b8m P H0 m σ fun e=>K (σ.app m.dst e)
 | some (s,want) =>
  match get s σ.env with
  | .bool b=>a4n b want (b8m P H0 m ⟨put s (.bool want) σ.env,σ.heap⟩ fun e=>K (St.app ⟨put s (.bool want) σ.env,σ.heap⟩ m.dst e)) (K ⟨a7c m.dst (put s (.bool (!want)) σ.env),σ.heap⟩)
  | .tup []=>K ⟨a7c m.dst σ.env,σ.heap⟩
  | _=>False
def runN (P:Program) (H0:Heap):List MOp→St→(St→Prop)→Prop
 | [],σ,K=>K σ
 | m::r,σ,K=>b65 P H0 m σ fun σ'=>runN P H0 r σ' K
theorem a5o {α:Type} {n:Nat} {x:α}:∀{l:List (Nat×α)},find n l=some x→put n x l=l
 | (m,y)::r,h=>by
  cases hb:Nat.beq n m with
  | true=>simp only [find,hb,vO,xO] at h;simp [put,hb,h]
  | false=>simp only [find,hb,vM] at h;simp [put,hb,a5o h]
theorem b0c {s:Nat} {env:List (Nat×V)} {b:Bool} (h:get s env=.bool b):find s env=some (.bool b):=by
 rw [a2f] at h
 cases hf:find s env with
 | none=>rw [hf] at h;cases h
 | some x=>rw [hf] at h;simp at h;rw [h]
section
variable {P:Program} {c:Ctx} {g:Gh} {σ:St} {a:Act} {w:World}
theorem Rel.undef' (h:Rel P c g σ a w) {d:Option Nat} (hd:∀n,d=some n→n<c.nt):Rel P c g ⟨a7c d σ.env,σ.heap⟩ (a.put d undef) w:=by
 have:=h.put hd (.tup #[] [] rfl fun i c hc=>by simp at hc:VR g w undef (.tup []))
 cases d<;>exact this
theorem d9n {s:Nat} {env:List (Nat×V)} (h:get s env=.tup []):find s env=some (.tup []):=by
 rw [a2f] at h
 cases hf:find s env with
 | none=>rw [hf] at h;cases h
 | some x=>rw [hf] at h;simp at h;rw [h]
theorem b0j {nt:Nat} {d d':Option Nat} (h:d9t nt d d'=true):d=d'∧∀n,d=some n→n<nt:=by
 cases d<;>cases d'<;>simp [d9t] at h
 ·exact ⟨rfl,fun n h=>by cases h⟩
 ·refine ⟨by rw [h.1],fun n hn=>by cases hn;exact h.2⟩
theorem a7x {ops:Array Oper} {o:Oper} {s:Nat} {want b:Bool} (hg:a6z ops (some (s,want)) o.guard=true) (hR:Rel P c g σ a w) (hb:get s σ.env=.bool b) :
  Region.wanted o (yielded ops a.tmps)=d0k b want:=by
 cases hgo:o.guard with
 | none=>rw [hgo] at hg;simp [a6z] at hg
 | some p =>
  obtain ⟨j,b'⟩:=p
  rw [hgo] at hg
  simp only [a6z,wE] at hg
  obtain ⟨h1,h2⟩:=hg
  have e1:=e0h h1;subst e1
  have:∃oj,ops[j]?=some oj∧oj.dst=some s:=by
   cases hj:ops[j]? with
   | none=>rw [hj] at h2;cases h2
   | some oj =>
    rw [hj] at h2
    cases hd:oj.dst with
    | none=>simp [hd] at h2
    | some d=>simp [hd] at h2;subst h2;exact ⟨oj,rfl,hd⟩
  obtain ⟨oj,hj,hd⟩:=this
  obtain ⟨hlt,hv⟩:=hR.env s _ (b0c hb)
  have hbv:=hv.bool_inv
  have hlt':s<a.tmps.size:=by rw [hR.size];exact hlt
  have hy:a.tmps[s]?=some (.bool b):=by
   rw [←hbv];simp [zC,hlt']
  simp only [Region.wanted,hgo,yielded,hj,xX,hd,hy]
  cases b<;>cases want<;>rfl
theorem b4o {ops:Array Oper} {o:Oper} {s:Nat} {want:Bool} (hg:a6z ops (some (s,want)) o.guard=true) (hR:Rel P c g σ a w) (hb:get s σ.env=.tup []):Region.wanted o (yielded ops a.tmps)=false:=by
 cases hgo:o.guard with
 | none=>rw [hgo] at hg;simp [a6z] at hg
 | some p =>
  obtain ⟨j,b'⟩:=p
  rw [hgo] at hg
  simp only [a6z,wE] at hg
  obtain ⟨h1,h2⟩:=hg
  have:∃oj,ops[j]?=some oj∧oj.dst=some s:=by
   cases hj:ops[j]? with
   | none=>rw [hj] at h2;cases h2
   | some oj =>
    rw [hj] at h2
    cases hd:oj.dst with
    | none=>simp [hd] at h2
    | some d=>simp [hd] at h2;subst h2;exact ⟨oj,rfl,hd⟩
  obtain ⟨oj,hj,hd⟩:=this
  obtain ⟨hlt,hv⟩:=hR.env s _ (d9n hb)
  obtain ⟨vs,hv1,hv2,_⟩:=hv.tup_inv
  have hlt':s<a.tmps.size:=by rw [hR.size];exact hlt
  have hy:a.tmps[s]?=some (.tuple vs):=by
   rw [←hv1];simp [zC,hlt']
  simp only [Region.wanted,hgo,yielded,hj,xX,hd,hy]
  rfl
theorem b1r {ops:Array Oper} {o:Oper} (hg:a6z ops none o.guard=true) (y:Nat→Option Bool):Region.wanted o y=true:=by
 cases hgo:o.guard with
 | none=>simp [Region.wanted,hgo]
 | some p=>rw [hgo] at hg;simp [a6z] at hg
theorem a5m {ops:Array Oper} {o:Oper} {m:MOp} {Q:Exit→Act→World→Prop} {K:Eff→Prop} {K':Act→World→Prop} (hok:m.ok P c.nt ops o=true) (hR:Rel P c g σ a w)
  (h:b8m P c.H0 m σ K) (hK:∀eff,K eff→∀(g':Gh) (a':Act) (w':World),Rel P c g' (σ.app m.dst eff) a' w'→K' a' w'):o.wp P a w K' Q:=by
 simp only [MOp.ok,wE] at hok
 obtain ⟨⟨h1,h2⟩,h3⟩:=hok
 obtain ⟨hd,hlt⟩:=b0j h2
 unfold b8m at h
 cases hc:a1k c.H0 σ (m.ins.creates m.d) with
 | false=>rw [hc] at h;exact h.elim
 | true =>
  rw [hc] at h
  simp only [vO] at h
  refine b94 m.ins (d:=m.d) h1 hR (fun id o h=>h) (a1t hc) h fun eff he g' v w' hs hf hv=>?_
  have he':K eff:=he.elim id Lk.out
  refine hK eff he' g' _ w' ?_
  rw [←hd]
  exact hR.step hlt hs hf hv
theorem b66 {ops:Array Oper} {Q:Exit→Act→World→Prop} {K:St→Prop} (hK:∀σ' g' a' w',K σ'→Rel P c g' σ' a' w'→Q .normal a' w') :
  ∀(ms:List MOp) (i:Nat) (g:Gh) (σ:St) (a:Act) (w:World),a1p P c.nt ops ms (ops.toList.drop i)=true→Rel P c g σ a w→runN P c.H0 ms σ K→wpOps P ops Q (List.range' i ms.length) a w
 | [],i,g,σ,a,w,_,hR,h=>hK σ g a w h hR
 | m :: r,i,g,σ,a,w,hok,hR,h=>by
  rw [wA,List.range'_succ,wpOps_cons]
  cases hd:ops.toList.drop i with
  | nil=>rw [hd] at hok;simp [a1p] at hok
  | cons o s =>
   rw [hd] at hok
   simp only [a1p,wE] at hok
   obtain ⟨hm,hr⟩:=hok
   have hi:ops[i]?=some o:=by
    have:(ops.toList.drop i)[0]?=some o:=by rw [hd];rfl
    rw [xJ,vD,zW] at this
    exact this
   have hs:ops.toList.drop (i+1)=s:=by
    have:=congrArg List.tail hd
    simpa using this
   rw [←hs] at hr
   have ih:=fun g σ a w=>b66 hK r (i+1) g σ a w hr
   have hm':=hm
   simp only [MOp.ok,wE] at hm'
   obtain ⟨⟨_,h2⟩,h3⟩:=hm'
   obtain ⟨hdd,hlt⟩:=b0j h2
   simp only [wpOp,hi]
   simp only [runN,b65] at h
   cases hg:m.guard with
   | none =>
    rw [hg] at h h3
    simp only [b1r h3,if_true]
    exact .inl (a5m hm hR h fun eff he g' a' w' hR'=>ih g' _ a' w' hR' he)
   | some p =>
    obtain ⟨t,want⟩:=p
    rw [hg] at h h3
    simp only at h
    split at h
    case h_3=>exact h.elim
    case h_2 hb =>
     rw [b4o h3 hR hb]
     simp only [xL,if_false]
     exact ih g _ _ w (by rw [←hdd];exact hR.undef' hlt) h
    rename_i b hb
    obtain ⟨hx,hy⟩:=h
    rw [a7x h3 hR hb]
    have hf:=b0c hb
    by_cases hbw:b=want
    ·subst hbw
     have hw:d0k b b=true:=by cases b<;>rfl
     simp only [hw,if_true]
     have hx:=hx rfl
     rw [a5o hf] at hx
     exact .inl (a5m hm hR hx fun eff he g' a' w' hR'=>ih g' _ a' w' hR' he)
    ·have hbn:b=(!want):=by cases b<;>cases want<;>first|rfl|exact absurd rfl hbw
     have hw:d0k b want=false:=by rw [hbn];cases want<;>rfl
     simp only [hw,xL,if_false]
     have hy:=hy hbn
     rw [←hbn,a5o hf] at hy
     exact ih g _ _ w (by rw [←hdd];exact hR.undef' hlt) hy
theorem c4u {ops:Array Oper} {ms:List MOp} {Q:Exit→Act→World→Prop} {K:St→Prop} (hK:∀σ' g' a' w',K σ'→Rel P c g' σ' a' w'→Q .normal a' w')
  (hok:a1p P c.nt ops ms ops.toList=true) (hR:Rel P c g σ a w) (h:runN P c.H0 ms σ K):wpOps P ops Q (List.range ops.size) a w:=by
 have hl:∀{ms:List MOp} {l:List Oper},a1p P c.nt ops ms l=true→ms.length=l.length:=by
  intro ms
  induction ms with
  | nil =>
   intro l h
   cases l with
   | nil=>rfl
   | cons o s=>cases h
  | cons m r ih =>
   intro l h
   cases l with
   | nil=>cases h
   | cons o s =>
    simp only [a1p,wE] at h
    simp only [wA,ih h.2]
 have:=b66 hK ms 0 g σ a w (by rw [wU];exact hok) hR h
 rw [hl hok,xD] at this
 rwa [List.range_eq_range']
end
def c52 (h:Heap) (id:Nat):Option a0i:=find id h
theorem mem_iff {n:Nat}:∀{l:List Nat},mem n l=true↔n∈l
 | []=>by simp [mem]
 | m::r=>by
  simp only [mem,wR,wY]
  rw [mem_iff]
  exact or_congr ⟨zR,fun h=>by rw [h];exact vC m⟩ vP
theorem a0s.mono {P:Program} {f:Nat} {args:List V} {H:Heap} {Q Q':V→Heap→Prop} (h:a0s P f args H Q) (hq:∀r H',Q r H'→Q' r H'):a0s P f args H Q' :=
 ⟨h.1,fun g w vals h1 h2 h3=>(h.2 g w vals h1 h2 h3).mono fun _ _ ⟨v,r,H',g',k1,k2,k3⟩=>⟨v,r,H',g',k1,hq _ _ k2,k3⟩⟩
theorem Rel.sub {P:Program} {c:Ctx} {g:Gh} {σ:St} {a:Act} {w:World} {τ:St} (h:Rel P c g σ a w) (he:∀s x,find s τ.env=some x→find s σ.env=some x) (hh:∀s o,find s τ.heap=some o→find s σ.heap=some o):Rel P c g τ a w :=
 ⟨h.size,h.dfr,fun s x hx=>h.env s x (he s x hx),h.hp.sub hh,⟨h.fr.os,h.fr.tape,h.fr.output,h.fr.size,h.fr.old,fun id o ho=>h.fr.own id o (hh id o ho),h.fr.sup,h.fr.sub,h.fr.par⟩⟩
section
variable {K L:V→Prop} {x y z:V}
theorem d16 (h:c0q x y z K):∃v,K v∧c0q x y z (fun u=>u=v):=by
  unfold c0q at *
  split at h
  · split at h
    · exact ⟨_,h,rfl⟩
    · rename_i t _ _ _
      cases t
      · exact ⟨_,h,rfl⟩
      · exact ⟨_,h,rfl⟩
  · exact h.elim
theorem b7l {n:Option Nat} {off:Nat} {cs:List V} (h:part n off cs K):∃v,K v∧part n off cs (fun u=>u=v):=by
  unfold part at *
  cases n with
  | none =>
    simp only at h ⊢
    split at h
    · exact ⟨_,h,rfl⟩
    · exact h.elim
  | some n =>
    simp only at h ⊢
    cases hb:Nat.ble (off+n) cs.length with
    | true=>rw [hb] at h;exact ⟨_,h,rfl⟩
    | false=>rw [hb] at h;exact h.elim
theorem d50 {n:Option Nat} {ob:Nat→Option a0i} (h:sLd n x ob K L):∃v,(K v∨L v)∧sLd n x ob (fun u=>u=v) (fun u=>u=v):=by
  cases x<;>try (exact h.elim)
  case ptr id off =>
    cases ho:ob id with
    | none=>simp only [sLd,ho] at h
    | some o =>
      cases o<;>simp only [sLd,ho] at h ⊢
      obtain ⟨v,h1,h2⟩:=b7l h;exact ⟨v,.inl h1,h2⟩
  case eptr y off=>obtain ⟨v,h1,h2⟩:=b7l h;exact ⟨v,.inl h1,h2⟩
  case optr id k i off =>
    cases ho:ob id with
    | none=>simp only [sLd,ho] at h
    | some o =>
      cases o<;>simp only [sLd,ho] at h ⊢
      rename_i k' xs t0
      cases hk:Nat.beq k k' with
      | false=>rw [hk] at h;exact h.elim
      | true =>
        rw [hk] at h
        simp only [vO] at h ⊢
        obtain ⟨q,h1,h2⟩:=h
        obtain ⟨v,h3,h4⟩:=b7l h2
        exact ⟨v,.inr h3,q,h1,h4⟩
theorem e4y {n:Nat} {ob:Nat→Option a0i} {K L:Nat→a0i→Prop} (h:sSt n x y ob K L):∃id o,(K id o∨L id o)∧sSt n x y ob (fun i p=>i=id∧p=o) (fun i p=>i=id∧p=o):=by
  unfold sSt at *
  cases hc:(Nat.beq y.cells.length n&&y.cells.all V.one) with
  | false=>rw [hc] at h;exact h.elim
  | true =>
    rw [hc] at h
    simp only [vO] at h ⊢
    cases x<;>try (exact h.elim)
    case ptr id off =>
      cases ho:ob id with
      | none=>simp only [ho] at h
      | some o =>
        cases o<;>simp only [ho] at h ⊢
        rename_i cs ty
        cases hb:Nat.ble (off+n) cs.length with
        | false=>rw [hb] at h;exact h.elim
        | true=>rw [hb] at h;exact ⟨_,_,.inl h,rfl,rfl⟩
    case optr id k i off =>
      cases ho:ob id with
      | none=>simp only [ho] at h
      | some o =>
        cases o<;>simp only [ho] at h ⊢
        rename_i k' xs t0
        cases hk:(Nat.beq k k'&&y.sealed) with
        | false=>rw [hk] at h;exact h.elim
        | true =>
          rw [hk] at h
          simp only [vO] at h ⊢
          cases hz:(Nat.beq off 0&&Nat.beq n k) with
          | true=>rw [hz] at h;simp only [vO] at h ⊢;exact ⟨_,_,.inl h.2,h.1,rfl,rfl⟩
          | false =>
            rw [hz] at h;simp only [vM] at h ⊢
            obtain ⟨cs,h1,h2,h3⟩:=h
            exact ⟨_,_,.inr h3,cs,h1,h2,rfl,rfl⟩
theorem d6s (h:e2d x K):∃v,K v∧e2d x (fun u=>u=v):=by
  cases x<;>first|exact h.elim|exact ⟨_,h,rfl⟩
theorem d18 {m:Nat} {k:IntKind} (h:c0s m k x K):∃v,K v∧c0s m k x (fun u=>u=v):=by
  cases x<;>try (exact h.elim)
  rename_i k' a
  simp only [c0s] at h ⊢
  cases hk:kEq k k' with
  | false=>rw [hk] at h;exact h.elim
  | true=>rw [hk] at h;exact ⟨_,h,rfl⟩
theorem d77 {ng:Bool} (h:e2h ng x y K):∃v,K v∧e2h ng x y (fun u=>u=v):=by
  cases x<;>try (exact h.elim)
  cases y<;>try (exact h.elim)
  exact ⟨_,h,rfl⟩
theorem d72 {ng:Bool} {ks:List Nat} (h:d73 ng ks x y K):∃v,K v∧d73 ng ks x y (fun u=>u=v):=by
  cases x<;>try (exact h.elim)
  cases y<;>try (exact h.elim)
  rename_i cs ds
  simp only [d73] at h ⊢
  cases he:a0z ks cs ds with
  | none=>rw [he] at h;exact h.elim
  | some t=>rw [he] at h;exact ⟨_,h,rfl⟩
theorem d6q (h:e2a x K):∃v,K v∧e2a x (fun u=>u=v):=by
  cases x<;>first|exact h.elim|exact ⟨_,h,rfl⟩
theorem d6r {ch:Bool} (h:e2c ch x K):∃v,K v∧e2c ch x (fun u=>u=v):=by
  cases x<;>try (exact h.elim)
  cases ch
  · exact ⟨_,h,rfl⟩
  · exact ⟨_,h.2,h.1,rfl⟩
theorem d6y {ch:Bool} {k:IntKind} (h:e2f ch k x K):∃v,K v∧e2f ch k x (fun u=>u=v):=by
  cases x<;>try (exact h.elim)
  cases ch
  · exact ⟨_,h,rfl⟩
  · exact ⟨_,h.2,h.1,rfl⟩
theorem d6z {off:Nat} (h:e2g off x K):∃v,K v∧e2g off x (fun u=>u=v):=by
  cases x<;>first|exact h.elim|exact ⟨_,h,rfl⟩
theorem d6w (h:e2e x y K):∃v,K v∧e2e x y (fun u=>u=v):=by
  cases x<;>try (exact h.elim)
  cases y<;>try (exact h.elim)
  exact ⟨_,h.2,h.1,rfl⟩
theorem d79 {n:Option Nat} {k cnt:Nat} (h:e2i n k cnt x y K):∃v,K v∧e2i n k cnt x y (fun u=>u=v):=by
  cases x<;>try (exact h.elim)
  cases y<;>try (exact h.elim)
  obtain ⟨h1,h2⟩:=h
  obtain ⟨v,h3,h4⟩:=b7l h2
  exact ⟨v,h3,h1,h4⟩
theorem d70 {i:Nat} (h:d71 i x K):∃v,K v∧d71 i x (fun u=>u=v):=by
  cases x<;>try (exact h.elim)
  rename_i cs
  simp only [d71] at h ⊢
  cases hd:cs.drop i with
  | nil=>rw [hd] at h;exact h.elim
  | cons c r=>rw [hd] at h;exact ⟨_,h,rfl⟩
theorem d6v {s:Bool} (h:sLen s x K):∃v,K v∧sLen s x (fun u=>u=v):=by
  cases x<;>cases s<;>first|exact h.elim|exact ⟨_,h,rfl⟩
theorem e4z {mx:Bool} (h:sMm mx x y K):∃v,K v∧sMm mx x y (fun u=>u=v):=by
  cases x<;>try (exact h.elim)
  cases y<;>try (exact h.elim)
  rename_i k a k' b
  simp only [sMm] at h ⊢
  cases hk:kEq k k' with
  | false=>rw [hk] at h;exact h.elim
  | true=>rw [hk] at h;exact ⟨_,h,rfl⟩
theorem d6x {k:Nat} (h:d0f k x y K L):∃v,(K v∨L v)∧d0f k x y (fun u=>u=v) (fun u=>u=v):=by
  cases y<;>try (exact h.elim)
  cases x<;>try (exact h.elim)
  case int.sl =>
    obtain ⟨h1,q,h2,h3,h4⟩:=h
    exact ⟨_,.inr h4,h1,q,h2,h3,rfl⟩
  case int.osl k' n id k2 lo m =>
    simp only [d0f] at h ⊢
    cases hk:Nat.beq k k2 with
    | false=>rw [hk] at h;exact h.elim
    | true=>rw [hk] at h;exact ⟨_,.inl h.2,h.1,rfl⟩
theorem d6n {lo hi:Bool} {r:List V} (h:d6o lo hi x r K):∃v,K v∧d6o lo hi x r (fun u=>u=v):=by
  cases x<;>try (exact h.elim)
  rename_i s
  simp only [d6o] at h ⊢
  cases hb:bounds lo hi s.length r with
  | none=>rw [hb] at h;exact h.elim
  | some p=>rw [hb] at h;exact ⟨_,h.2,h.1,rfl⟩
theorem d6p {k:Nat} {lo hi:Bool} {r:List V} (h:d4z k lo hi x r K):∃v,K v∧d4z k lo hi x r (fun u=>u=v):=by
  cases x<;>try (exact h.elim)
  case sl xs =>
    simp only [d4z] at h ⊢
    cases hb:bounds lo hi xs.length r with
    | none=>rw [hb] at h;exact h.elim
    | some p=>rw [hb] at h;exact ⟨_,h.2.2,h.1,h.2.1,rfl⟩
  case osl id k' l n =>
    simp only [d4z] at h ⊢
    cases hb:bounds lo hi n r with
    | none=>rw [hb] at h;exact h.elim
    | some p =>
      rw [hb] at h
      simp only at h ⊢
      cases hk:Nat.beq k k' with
      | false=>rw [hk] at h;exact h.elim
      | true=>rw [hk] at h;exact ⟨_,h.2,h.1,rfl⟩
theorem d76 {ch:Bool} {op:BinOp} (h:d51 ch op x y K):∃v,K v∧d51 ch op x y (fun u=>u=v):=by
  cases x<;>try (exact h.elim)
  case int k a =>
    cases y<;>try (exact h.elim)
    rename_i k' b
    simp only [d51] at h ⊢
    cases op <;> simp only at h ⊢<;>first
      | exact ⟨_,h.2,h.1,rfl⟩
      | (cases hk:kEq k k'<;>rw [hk] at h<;>first
          | exact h.elim
          | (simp only [vO] at h ⊢
             first
              | exact ⟨_,h,rfl⟩
              | (cases ch
                 · first|exact ⟨_,h,rfl⟩|exact ⟨_,h.2,h.1,rfl⟩
                 · first|exact ⟨_,h,rfl⟩|exact ⟨_,h.2,h.1,rfl⟩)))
  case str a =>
    cases y<;>try (exact h.elim)
    simp only [d51] at h ⊢
    cases op<;>simp only at h ⊢<;>first|exact ⟨_,h,rfl⟩|exact ⟨_,h.2,h.1,rfl⟩|exact h.elim
end
section
variable {K:Eff→Prop} {x y:V} {d:Nat}
theorem d74 (h:d75 d x K):∃v,K v∧d75 d x (fun u=>u=v):=by
  cases x<;>first|exact h.elim|exact ⟨_,h,rfl⟩
theorem d17 {k bytes:Nat} {z:V} (h:c0r k bytes d z x y K):∃v,K v∧c0r k bytes d z x y (fun u=>u=v):=by
  unfold c0r at *
  split at h
  · exact ⟨_,h.2,h.1,rfl⟩
  · exact h.elim
theorem d78 {k bytes:Nat} {ty:Option TypeId} {ob:Nat→Option a0i} (h:c2r k bytes d ty x y ob K):∃v,K v∧c2r k bytes d ty x y ob (fun u=>u=v):=by
  unfold c2r at *
  cases ha:a7i k y ob with
  | none=>rw [ha] at h;exact h.elim
  | some ys =>
    rw [ha] at h
    simp only at h ⊢
    obtain ⟨h0,h⟩:=h
    cases x<;>try (exact h.elim)
    case nils=>exact ⟨_,h.2,h0,h.1,rfl⟩
    case osl id k' lo n =>
      cases ho:ob id with
      | none=>simp only [ho] at h
      | some o =>
        cases o<;>simp only [ho] at h ⊢
        rename_i k'' xs t0
        cases hk:(Nat.beq k k'&&Nat.beq k k'') with
        | false=>rw [hk] at h;exact h.elim
        | true=>rw [hk] at h;exact ⟨_,h.2,h0,h.1,rfl⟩
theorem c3a {x:V} {ob:Nat→Option a0i} {K:KD→List (V×V)→Prop} (h:b1n x ob K):∃kd es,K kd es∧∀K':KD→List (V×V)→Prop,K' kd es→b1n x ob K':=by
  unfold b1n at h
  split at h
  · exact ⟨_,_,h,fun K' h=>h⟩
  · split at h
    · rename_i ho
      refine ⟨_,_,h,fun K' h'=>?_⟩
      simp only [b1n,ho];exact h'
    · rename_i ho
      refine ⟨_,_,h,fun K' h'=>?_⟩
      simp only [b1n,ho];exact h'
    · exact h.elim
  · exact h.elim
theorem d6u {op:c0c} {d:Nat} {vs:List V} {ob:Nat→Option a0i} {K L:Eff→Prop} (hn:op≠.nxt) (hn2:∀b,op≠.isn b) (h:a2j op d vs ob K L):∃e,K e∧a2j op d vs ob (fun u=>u=e) (fun u=>u=e):=by
  unfold a2j at h
  split at h
  · exact ⟨_,h,rfl⟩
  · rename_i kd ok z x k
    split at h
    · cases hk:kd.is k with
      | false=>rw [hk] at h;exact h.elim
      | true=>rw [hk] at h;exact ⟨_,h,by simp only [a2j,hk,vO]⟩
    · rename_i m p kd' es
      cases hk:kd.is k&&kd'.is k&&z.isNilS with
      | false=>rw [hk] at h;exact h.elim
      | true=>rw [hk] at h;exact ⟨_,h,by simp only [a2j,hk,vO]⟩
    · rename_i x hx
      obtain ⟨kd',es,h1,h2⟩:=c3a h
      cases hk:kd.is k&&kd'.is k with
      | false=>rw [hk] at h1;exact h1.elim
      | true =>
        rw [hk] at h1
        refine ⟨_,h1,?_⟩
        simp only [a2j]
        exact h2 _ (by simp only [hk,vO])
  · rename_i kd id k v
    split at h
    · rename_i kd' es ho
      cases hk:kd.is k&&kd'.is k&&v.sealed with
      | false=>rw [hk] at h;exact h.elim
      | true=>rw [hk] at h;exact ⟨_,h,by simp only [a2j,ho,hk,vO]⟩
    · exact h.elim
  · rename_i kd id k
    split at h
    · rename_i kd' es ho
      cases hk:kd.is k&&kd'.is k with
      | false=>rw [hk] at h;exact h.elim
      | true=>rw [hk] at h;exact ⟨_,h,by simp only [a2j,ho,hk,vO]⟩
    · exact h.elim
  · rename_i x
    split at h
    · exact ⟨_,h,rfl⟩
    · rename_i x hx
      obtain ⟨kd',es,h1,h2⟩:=c3a h
      refine ⟨_,h1.2,?_⟩
      simp only [a2j]
      exact h2 _ ⟨h1.1,rfl⟩
  · split at h
    · exact ⟨_,h,rfl⟩
    · exact ⟨_,h,rfl⟩
    · exact h.elim
  · exact absurd rfl hn
  · split at h
    · rename_i ho;exact ⟨_,h,by simp only [a2j,ho]⟩
    · exact h.elim
  · exact absurd rfl (hn2 _)
  · split at h
    · rename_i ho;exact ⟨_,h,by simp only [a2j,ho]⟩
    · exact h.elim
  · rename_i kd id k j q n
    split at h
    · rename_i kd' es q' xs ty ho ho2
      cases hk:kd.is k&&kd'.is k&&(Nat.beq q q'&&Nat.beq n xs.length&&!Nat.beq id j) with
      | false=>rw [hk] at h;exact h.elim
      | true=>rw [hk] at h;exact ⟨_,h,by simp only [a2j,ho,ho2,hk,vO]⟩
    · rename_i z p kd' es q' xs ty ho ho2
      cases hk:kd.is k&&kd'.is k&&(Nat.beq q q'&&Nat.beq n xs.length&&!Nat.beq id j)&&Nat.beq q p with
      | false=>rw [hk] at h;exact h.elim
      | true=>rw [hk] at h;exact ⟨_,h,by simp only [a2j,ho,ho2,hk,vO]⟩
    · exact h.elim
  · exact ⟨_,h,rfl⟩
  · unfold e2n at h
    split at h
    · exact ⟨_,h,rfl⟩
    · exact ⟨_,h,rfl⟩
    · exact h.elim
  · rename_i k bytes id k' lo n y
    split at h
    · rename_i ys hs
      obtain ⟨h0,h⟩:=h
      split at h
      · rename_i k'' xs t ho
        cases hk:Nat.beq k k'&&Nat.beq k k''&&!y.has id with
        | false=>rw [hk] at h;exact h.elim
        | true=>rw [hk] at h;exact ⟨_,h.2,by simp only [a2j,hs,ho,hk,vO];exact ⟨h0,h.1,trivial⟩⟩
      · exact h.elim
    · exact h.elim
  · exact h.elim
end
def b3r (P:Program) (f:V) (args:List V) (ids news:List Nat) (ob:Nat→Option a0i) (L:Eff→Prop):Prop :=
 match f with
 | .fn (.func n) cap=>match b8f ids ob with
  | some H=>∃r H',a0s P n (args++cap) H (fun r' H''=>r'=r∧H''=H')∧b1q H' ids news=true∧L ⟨r,ids,H'⟩
  | none=>False
 | .fn (.yield n) fs=>match b8f ids ob with
  | some H=>∃r H',a0s P n (fs++args) H (fun r' H''=>r'=r∧H''=H')∧b1q H' ids news=true∧L ⟨r,ids,H'⟩
  | none=>False
 | _=>False
def a1f (P:Program) (i:a0a) (d:Nat) (vs:List V) (ob:Nat→Option a0i) (K L:Eff→Prop):Prop :=
 match i,vs with
 | .call _ _ ids news,f::args=>b3r P f args ids news ob L
 | .mp .nxt _,_=>False
 | .mp (.isn _) _,_=>False
 | i,vs=>p9 P i d vs ob K L
theorem a2b (v:V):(fun r=>evl r=evl v)=fun u=>u=v:=by
 funext r;simp [evl]
theorem d9s (id:Nat) (o:a0i):(fun i p=>eup i p=eup id o)=fun i p=>i=id∧p=o:=by
 funext i p;simp [eup]
theorem c6q {P:Program} {i:a0a} {d:Nat} {vs:List V} {ob:Nat→Option a0i} {K L:Eff→Prop} (h:a1f P i d vs ob K L) :
  ∃e,(K e∨L e)∧p9 P i d vs ob (fun u=>u=e) (fun u=>u=e):=by
 cases i with
 | mv x =>
  match vs,h with
  | [y],h=>exact ⟨_,.inl h,rfl⟩
  | [],h=>exact h.elim
  | _::_::_,h=>exact h.elim
 | pick a b c =>
  match vs,h with
  | [x,y,z],h=>obtain ⟨v,h1,h2⟩:=d16 (K:=fun x=>K (evl x)) h;exact ⟨evl v,.inl h1,by simp only [p9,a2b];exact h2⟩
  | [],h=>exact h.elim
  | [_],h=>exact h.elim
  | [_,_],h=>exact h.elim
  | _::_::_::_::_,h=>exact h.elim
 | alloc zs=>exact ⟨_,.inl (by simpa only [a1f,p9] using h),by simp only [p9]⟩
 | box a =>
  match vs,h with
  | [x],h=>obtain ⟨v,h1,h2⟩:=d74 h;exact ⟨v,.inl h1,h2⟩
  | [],h=>exact h.elim
  | _::_::_,h=>exact h.elim
 | build zs ps =>
  simp only [a1f,p9] at h ⊢
  cases hf:b0h zs ((ps.zip vs).map fun p=>(p.1.1,p.1.2.1,p.2)) with
  | none=>rw [hf] at h;exact h.elim
  | some cs=>rw [hf] at h;exact ⟨_,.inl h,rfl⟩
 | bslice k xs uv =>
  simp only [a1f,p9] at h ⊢
  cases hf:vs.all (a4j k) with
  | false=>rw [hf] at h;exact h.elim
  | true=>rw [hf] at h;exact ⟨_,.inl h,rfl⟩
 | ld n a =>
  match vs,h with
  | [x],h=>obtain ⟨v,h1,h2⟩:=d50 (K:=fun x=>K (evl x)) (L:=fun x=>L (evl x)) h;exact ⟨evl v,h1,by simp only [p9,a2b];exact h2⟩
  | [],h=>exact h.elim
  | _::_::_,h=>exact h.elim
 | st n a b =>
  match vs,h with
  | [x,y],h=>obtain ⟨id,o,h1,h2⟩:=e4y (K:=fun i o=>K (eup i o)) (L:=fun i o=>L (eup i o)) h;exact ⟨eup id o,h1,by simp only [p9,d9s];exact h2⟩
  | [],h=>exact h.elim
  | [_],h=>exact h.elim
  | _::_::_::_,h=>exact h.elim
 | nck a =>
  match vs,h with
  | [x],h=>obtain ⟨v,h1,h2⟩:=d6s (K:=fun x=>K (evl x)) h;exact ⟨evl v,.inl h1,by simp only [p9,a2b];exact h2⟩
  | [],h=>exact h.elim
  | _::_::_,h=>exact h.elim
 | bin ch op a b =>
  match vs,h with
  | [x,y],h=>obtain ⟨v,h1,h2⟩:=d76 (K:=fun x=>K (evl x)) h;exact ⟨evl v,.inl h1,by simp only [p9,a2b];exact h2⟩
  | [],h=>exact h.elim
  | [_],h=>exact h.elim
  | _::_::_::_,h=>exact h.elim
 | mask m a k =>
  match vs,h with
  | [x],h=>obtain ⟨v,h1,h2⟩:=d18 (K:=fun x=>K (evl x)) h;exact ⟨evl v,.inl h1,by simp only [p9,a2b];exact h2⟩
  | [],h=>exact h.elim
  | _::_::_,h=>exact h.elim
 | beq ng a b =>
  match vs,h with
  | [x,y],h=>obtain ⟨v,h1,h2⟩:=d77 (K:=fun x=>K (evl x)) h;exact ⟨evl v,.inl h1,by simp only [p9,a2b];exact h2⟩
  | [],h=>exact h.elim
  | [_],h=>exact h.elim
  | _::_::_::_,h=>exact h.elim
 | eqs ng ks a b =>
  match vs,h with
  | [x,y],h=>obtain ⟨v,h1,h2⟩:=d72 (K:=fun x=>K (evl x)) h;exact ⟨evl v,.inl h1,by simp only [p9,a2b];exact h2⟩
  | [],h=>exact h.elim
  | [_],h=>exact h.elim
  | _::_::_::_,h=>exact h.elim
 | not a =>
  match vs,h with
  | [x],h=>obtain ⟨v,h1,h2⟩:=d6q (K:=fun x=>K (evl x)) h;exact ⟨evl v,.inl h1,by simp only [p9,a2b];exact h2⟩
  | [],h=>exact h.elim
  | _::_::_,h=>exact h.elim
 | neg ch a =>
  match vs,h with
  | [x],h=>obtain ⟨v,h1,h2⟩:=d6r (K:=fun x=>K (evl x)) h;exact ⟨evl v,.inl h1,by simp only [p9,a2b];exact h2⟩
  | [],h=>exact h.elim
  | _::_::_,h=>exact h.elim
 | i2i ch k a =>
  match vs,h with
  | [x],h=>obtain ⟨v,h1,h2⟩:=d6y (K:=fun x=>K (evl x)) h;exact ⟨evl v,.inl h1,by simp only [p9,a2b];exact h2⟩
  | [],h=>exact h.elim
  | _::_::_,h=>exact h.elim
 | mkfn f cap=>exact ⟨_,.inl (by simpa only [a1f,p9] using h),by simp only [p9]⟩
 | mksl k bytes z a b =>
  match vs,h with
  | [x,y],h=>obtain ⟨v,h1,h2⟩:=d17 h;exact ⟨v,.inl h1,h2⟩
  | [],h=>exact h.elim
  | [_],h=>exact h.elim
  | _::_::_::_,h=>exact h.elim
 | sls a lo hi =>
  match vs,h with
  | x::r,h=>obtain ⟨v,h1,h2⟩:=d6n (K:=fun x=>K (evl x)) h;exact ⟨evl v,.inl h1,by simp only [p9,a2b];exact h2⟩
  | [],h=>exact h.elim
 | slc k a lo hi =>
  match vs,h with
  | x::r,h=>obtain ⟨v,h1,h2⟩:=d6p (K:=fun x=>K (evl x)) h;exact ⟨evl v,.inl h1,by simp only [p9,a2b];exact h2⟩
  | [],h=>exact h.elim
 | fad off a =>
  match vs,h with
  | [x],h=>obtain ⟨v,h1,h2⟩:=d6z (K:=fun x=>K (evl x)) h;exact ⟨evl v,.inl h1,by simp only [p9,a2b];exact h2⟩
  | [],h=>exact h.elim
  | _::_::_,h=>exact h.elim
 | iad k a b =>
  match vs,h with
  | [x,y],h=>obtain ⟨v,h1,h2⟩:=d6x (K:=fun x=>K (evl x)) (L:=fun x=>L (evl x)) h;exact ⟨evl v,h1,by simp only [p9,a2b];exact h2⟩
  | [],h=>exact h.elim
  | [_],h=>exact h.elim
  | _::_::_::_,h=>exact h.elim
 | idx a b =>
  match vs,h with
  | [x,y],h=>obtain ⟨v,h1,h2⟩:=d6w (K:=fun x=>K (evl x)) h;exact ⟨evl v,.inl h1,by simp only [p9,a2b];exact h2⟩
  | [],h=>exact h.elim
  | [_],h=>exact h.elim
  | _::_::_::_,h=>exact h.elim
 | aix n k cnt a b =>
  match vs,h with
  | [x,y],h=>obtain ⟨v,h1,h2⟩:=d79 (K:=fun x=>K (evl x)) h;exact ⟨evl v,.inl h1,by simp only [p9,a2b];exact h2⟩
  | [],h=>exact h.elim
  | [_],h=>exact h.elim
  | _::_::_::_,h=>exact h.elim
 | barr k zs xs =>
  simp only [a1f,p9] at h ⊢
  cases hf:b0h zs (a2o k 0 vs) with
  | none=>rw [hf] at h;exact h.elim
  | some cs=>rw [hf] at h;exact ⟨_,.inl h,rfl⟩
 | lsl k xs =>
  simp only [a1f,p9] at h ⊢
  cases hf:vs.all (a4j k) with
  | false=>rw [hf] at h;exact h.elim
  | true=>rw [hf] at h;exact ⟨_,.inl h,rfl⟩
 | ext i a =>
  match vs,h with
  | [x],h=>obtain ⟨v,h1,h2⟩:=d70 (K:=fun x=>K (evl x)) h;exact ⟨evl v,.inl h1,by simp only [p9,a2b];exact h2⟩
  | [],h=>exact h.elim
  | _::_::_,h=>exact h.elim
 | len s a =>
  match vs,h with
  | [x],h=>obtain ⟨v,h1,h2⟩:=d6v (K:=fun x=>K (evl x)) h;exact ⟨evl v,.inl h1,by simp only [p9,a2b];exact h2⟩
  | [],h=>exact h.elim
  | _::_::_,h=>exact h.elim
 | app k bytes a b =>
  match vs,h with
  | [x,y],h=>obtain ⟨v,h1,h2⟩:=d78 h;exact ⟨v,.inl h1,h2⟩
  | [],h=>exact h.elim
  | [_],h=>exact h.elim
  | _::_::_::_,h=>exact h.elim
 | mm mx a b =>
  match vs,h with
  | [x,y],h=>obtain ⟨v,h1,h2⟩:=e4z (K:=fun x=>K (evl x)) h;exact ⟨evl v,.inl h1,by simp only [p9,a2b];exact h2⟩
  | [],h=>exact h.elim
  | [_],h=>exact h.elim
  | _::_::_::_,h=>exact h.elim
 | mp m xs =>
  by_cases hm:m=.nxt
  ·subst hm;exact h.elim
  ·by_cases hm2:∃b,m=.isn b
   ·obtain ⟨b,rfl⟩:=hm2;exact h.elim
   ·have h':a2j m d vs ob K L:=by
     cases m<;>first|exact h|exact absurd rfl hm|exact absurd ⟨_,rfl⟩ hm2
    obtain ⟨e,h1,h2⟩:=d6u hm (fun b e=>hm2 ⟨b,e⟩) h'
    exact ⟨e,.inl h1,h2⟩
 | call f args ids news =>
  match vs,h with
  | [],h=>exact h.elim
  | g::r,h =>
   simp only [a1f,b3r] at h
   split at h
   ·split at h
    ·rename_i n cap H hH
     obtain ⟨r',H',h1,h2,h3⟩:=h
     refine ⟨_,.inr h3,?_⟩
     simp only [p9,b2x,hH]
     exact h1.mono fun r2 H2 ⟨e1,e2⟩=>by subst e1;subst e2;simp only [h2,vO]
    ·exact h.elim
   ·split at h
    ·rename_i n cap H hH
     obtain ⟨r',H',h1,h2,h3⟩:=h
     refine ⟨_,.inr h3,?_⟩
     simp only [p9,b2x,hH]
     exact h1.mono fun r2 H2 ⟨e1,e2⟩=>by subst e1;subst e2;simp only [h2,vO]
    ·exact h.elim
   ·exact h.elim
theorem c6o {ob ob':Nat→Option a0i}:∀{ids:List Nat},(∀id∈ids,ob id=ob' id)→b8f ids ob=b8f ids ob'
 | [],_=>rfl
 | n::r,h=>by
  have h1:=h n xG
  have h2:=c6o (ids:=r) fun id hid=>h id (xA _ hid)
  simp only [b8f,h1,h2]
theorem b9z {ob ob':Nat→Option a0i} {k:Nat} {y:V} (h:∀id∈vid y,ob id=ob' id):a7i k y ob=a7i k y ob':=by
 cases y<;>try rfl
 rename_i id k' lo n
 have:=h id (by simp [vid])
 simp only [a7i,this]
theorem c39 {ob ob':Nat→Option a0i} {x:V} {K:KD→List (V×V)→Prop} (h:∀id∈vid x,ob id=ob' id):b1n x ob K=b1n x ob' K:=by
 cases x<;>try rfl
 rename_i id
 have:=h id (by simp [vid])
 simp only [b1n,this]
theorem d6t {ob ob':Nat→Option a0i} {op:c0c} {xs:List Opd} {d:Nat} {vs:List V} {K L:Eff→Prop} (h:∀id∈(a0a.mp op xs).touch vs,ob id=ob' id):a2j op d vs ob K L=a2j op d vs ob' K L:=by
 unfold a2j
 split
 ·rfl
 ·split
  ·rfl
  ·rfl
  ·exact c39 fun id hid=>h id (by simpa [a0a.touch] using hid)
 ·have:=h _ (by simp [a0a.touch,vid];rfl)
  simp only [this]
 ·have:=h _ (by simp [a0a.touch,vid];rfl)
  simp only [this]
 ·split
  ·rfl
  ·exact c39 fun id hid=>h id (by simpa [a0a.touch] using hid)
 ·rfl
 ·have:=h _ (by simp [a0a.touch,vid];rfl)
  simp only [this]
 ·have:=h _ (by simp [a0a.touch,vid];rfl)
  simp only [this]
 ·rfl
 ·rfl
 ·rename_i kd id k j q n
  have h1:=h id (by simp [a0a.touch,vid])
  have h2:=h j (by simp [a0a.touch,vid])
  simp only [h1,h2]
 ·rfl
 ·rfl
 ·rename_i k bytes id k' lo n y
  have h1:=h id (by simp [a0a.touch,vid])
  have h2:=b9z (k:=k) (ob:=ob) (ob':=ob') (y:=y) fun i hi=>h i (by simp [a0a.touch,hi])
  simp only [h1,h2]
 ·rfl
theorem d10 {P:Program} {i:a0a} {d:Nat} {vs:List V} {ob ob':Nat→Option a0i} {K L:Eff→Prop} (ht:∀id∈i.touch vs,ob id=ob' id) (h:p9 P i d vs ob K L):p9 P i d vs ob' K L:=by
 cases i with
 | ld n a =>
  rcases vs with _|⟨x,_|⟨y,r⟩⟩
  ·exact h.elim
  ·change sLd n x ob _ _ at h
   change sLd n x ob' _ _
   cases x<;>try exact h
   ·rename_i id off
    have:=ht id (by simp [a0a.touch,vid])
    simp only [sLd,this] at h ⊢;exact h
   ·rename_i id k i off
    have:=ht id (by simp [a0a.touch,vid])
    simp only [sLd,this] at h ⊢;exact h
  ·exact h.elim
 | st n a b =>
  rcases vs with _|⟨x,_|⟨y,_|⟨z,r⟩⟩⟩
  ·exact h.elim
  ·exact h.elim
  ·change sSt n x y ob (fun id o=>K (eup id o)) (fun id o=>L (eup id o)) at h
   change sSt n x y ob' (fun id o=>K (eup id o)) (fun id o=>L (eup id o))
   cases x<;>try exact h
   ·rename_i id off
    have:=ht id (by simp [a0a.touch,vid])
    simp only [sSt,this] at h ⊢;exact h
   ·rename_i id k i off
    have:=ht id (by simp [a0a.touch,vid])
    simp only [sSt,this] at h ⊢;exact h
  ·exact h.elim
 | app k bytes a b ty =>
  rcases vs with _|⟨x,_|⟨y,_|⟨z,r⟩⟩⟩
  ·exact h.elim
  ·exact h.elim
  ·change c2r k bytes d ty x y ob _ at h
   change c2r k bytes d ty x y ob' _
   have hy:=b9z (k:=k) (ob:=ob) (ob':=ob') (y:=y) fun id hid=>ht id (by simp [a0a.touch,hid])
   unfold c2r at h ⊢
   rw [←hy]
   cases ha:a7i k y ob with
   | none=>rw [ha] at h;exact h
   | some ys =>
    rw [ha] at h
    simp only at h ⊢
    obtain ⟨h0,h⟩:=h
    refine ⟨h0,?_⟩
    cases x<;>try exact h
    rename_i id k' lo n
    have:=ht id (by simp [a0a.touch,vid])
    simp only [this] at h ⊢;exact h
  ·exact h.elim
 | call f args ids news =>
  rcases vs with _|⟨x,r⟩
  ·exact h.elim
  ·change b2x P x r ids news ob _ at h
   change b2x P x r ids news ob' _
   have:=c6o (ids:=ids) (ob:=ob) (ob':=ob') fun id hid=>ht id (by simpa [a0a.touch] using hid)
   unfold b2x at h ⊢
   rw [this] at h
   exact h
 | mp m xs =>
  change a2j m d vs ob K L at h
  change a2j m d vs ob' K L
  rwa [d6t (xs:=xs) (ob:=ob) (ob':=ob') ht] at h
 | alloc zs=>simp only [p9] at h ⊢;exact h
 | mkfn f cap=>simp only [p9] at h ⊢;exact h
 | build zs ps=>simp only [p9] at h ⊢;exact h
 | bslice k xs uv=>simp only [p9] at h ⊢;exact h
 | barr k zs xs=>simp only [p9] at h ⊢;exact h
 | lsl k xs=>simp only [p9] at h ⊢;exact h
 | sls a lo hi=>rcases vs with _|⟨x,r⟩<;>exact h
 | slc k a lo hi=>rcases vs with _|⟨x,r⟩<;>exact h
 | _=>rcases vs with _|⟨x,_|⟨y,_|⟨z,_|⟨u,r⟩⟩⟩⟩<;>exact h
structure Ent where
 dst:Option Nat
 eff:Option Eff
 uses:List Nat
 touch:List Nat
 made:List Nat
def Ent.app (e:Ent) (σ:St):St :=
 match e.eff with
 | some f=>σ.app e.dst f
 | none=>⟨a7c e.dst σ.env,σ.heap⟩
def Ent.ids (e:Ent):List Nat :=
 match e.eff with
 | some f=>f.ids
 | none=>[]
def slotsOf:List Opd→List Nat
 | []=>[]
 | .t n::r=>n::slotsOf r
 | _::r=>slotsOf r
def f6m (P:Program) (H0:Heap) (m:MOp) (σ:St) (gs:List Nat) (k:Ent→Prop):Prop :=
 bif a1k H0 σ (m.ins.creates m.d) then
  a1f P m.ins m.d (m.ins.opds.map (·.ev σ.env)) (c52 σ.heap) (fun f=>k ⟨m.dst,some f,gs++slotsOf m.ins.opds,m.ins.touch (m.ins.opds.map (·.ev σ.env)),m.ins.creates m.d⟩)
   (fun f=>k ⟨m.dst,some f,gs++slotsOf m.ins.opds,m.ins.touch (m.ins.opds.map (·.ev σ.env)),m.ins.creates m.d⟩)
 else False
def c6y (P:Program) (H0:Heap):List MOp→List Ent→St→(List Ent→St→Prop)→Prop
 | [],log,σ,K=>K log σ
 | m :: r,log,σ,K =>
  match m.guard with
  | none=>f6m P H0 m σ [] fun e=>c6y P H0 r (e::log) (e.app σ) K
  | some (s,want) =>
   match get s σ.env with
   | .bool b=>a4n b want (f6m P H0 m ⟨put s (.bool want) σ.env,σ.heap⟩ [s] fun e=>c6y P H0 r (e::log) (e.app ⟨put s (.bool want) σ.env,σ.heap⟩) K)
     (c6y P H0 r (⟨m.dst,none,[s],[],[]⟩::log) (Ent.app ⟨m.dst,none,[s],[],[]⟩ ⟨put s (.bool (!want)) σ.env,σ.heap⟩) K)
   | .tup []=>c6y P H0 r (⟨m.dst,none,[s],[],[]⟩::log) (Ent.app ⟨m.dst,none,[s],[],[]⟩ σ) K
   | _=>False
def c7u (x:Ent):List Nat→Bool
 | []=>true
 | n::r=>(match x.eff with|some f=>!f.val.has n&&a1h n f.new|none=>true)&&c7u x r
def d5j:List Nat→List Nat→Bool
 | [],_=>true
 | n::r,l=>!mem n l&&d5j r l
def oneOf (d:Option Nat) (l:List Nat):Bool :=
 match d with
 | some n=>mem n l
 | none=>false
def apart (x y:Ent):Bool :=
 !oneOf x.dst y.uses&&!oneOf y.dst x.uses&&(match x.dst,y.dst with|some a,some b=>!Nat.beq a b|_,_=>true)&&d5j x.ids y.touch&&d5j y.ids x.touch&&d5j x.ids y.ids
def b5n (i d:Nat):List Ent→Nat
 | []=>0
 | z::r=>(bif mem i z.ids||mem d z.ids then 1 else 0)+b5n i d r
def late (r:List Ent) (x y:Ent):Bool :=
 !oneOf x.dst y.uses&&!oneOf y.dst x.uses&&(match x.dst,y.dst with|some a,some b=>!Nat.beq a b|_,_=>true)&&d5j x.ids y.touch&&d5j x.ids y.ids &&
  match y.eff with
  | some f=>match f.drop,f.new with
   | [i],[(d,_)]=>!mem d x.touch&&Nat.ble (b5n i d r) 1&&!Nat.beq i d
   | _,_=>false
  | none=>false
def b2e (ord lat:Bool) (r:List Ent) (x y:Ent):Bool:=c7u x y.made&&(ord||((apart x y||(lat&&late r x y))&&c7u y x.made))
def b6r (i:Nat) (x:Ent) (all:List Ent):List (List Nat)→List Ent→Bool
 | _,[]=>true
 | a::anc,y::r=>b2e (Nat.blt i 1000000&&mem i a) (mem (1000000+i) a) all x y&&b6r i x all anc r
 | [],_::_=>false
def a3h (H0:Heap) (σ:St):Nat→List (List Nat)→List Ent→Bool
 | _,_,[]=>true
 | i,_::anc,x::r=>a1k H0 σ x.made&&b6r i x r anc r&&a3h H0 σ (i+1) anc r
 | _,[],_::_=>false
def a0a.isLd:a0a→Bool
 | .ld ..=>true
 | _=>false
def a0a.isApp:a0a→Bool
 | .app ..=>true
 | _=>false
def b7q (all:List MOp) (m:MOp):List Nat→Bool
 | []=>true
 | x::r=>(Nat.blt x 1000000||(m.ins.isApp&&(match all[x - 1000000]? with|some l=>l.ins.isLd|none=>false)))&&b7q all m r
def b07 (all:List MOp):List MOp→List (List Nat)→Bool
 | m::r,a::s=>b7q all m a&&b07 all r s
 | _,_=>true
def c01 (aft:List Nat) (anc:List (List Nat)):List Nat→Bool
 | []=>true
 | k::r=>(Nat.ble 1000000 k||mem k aft||aft.any fun l=>mem k (anc.getD l []))&&c01 aft anc r
def below (j:Nat):List Nat→Bool
 | []=>true
 | k::r=>Nat.blt k j&&below j r
def b0s (all:List (List Nat)):Nat→List (List Nat)→List (List Nat)→Bool
 | _,[],[]=>true
 | j,a::aft,b::anc=>below j a&&c01 a all b&&b0s all (j+1) aft anc
 | _,_,_=>false
def b45:List Nat→List Nat→Bool
 | [],[]=>true
 | a::r,b::s=>Nat.beq a b&&b45 r s
 | _,_=>false
def b39:List (List Nat)→List Oper→Bool
 | [],[]=>true
 | a::r,o::s=>b45 a ((o.after.toList.filter (Region.binds .any)).map (·.on))&&b39 r s
 | _,_=>false
def Ran (P:Program) (H0:Heap) (m:MOp) (e:Ent) (σ:St) (gs:List Nat):Prop :=
 ∃f,e.eff=some f∧p9 P m.ins m.d (m.ins.opds.map (·.ev σ.env)) (c52 σ.heap) (fun u=>u=f) (fun u=>u=f)∧e.uses=gs++slotsOf m.ins.opds ∧
  e.touch=m.ins.touch (m.ins.opds.map (·.ev σ.env))∧e.made=m.ins.creates m.d
def Ev (P:Program) (H0:Heap) (m:MOp) (e:Ent) (σ:St):Prop :=
 e.dst=m.dst∧((m.guard=none∧Ran P H0 m e σ [])∨(∃s want b,m.guard=some (s,want)∧get s σ.env=.bool b∧s∈e.uses∧((b=want∧Ran P H0 m e σ [s])∨(b=(!want)∧e.eff=none)))∨∃s want,m.guard=some (s,want)∧get s σ.env=.tup []∧s∈e.uses∧e.eff=none)
def Evs (P:Program) (H0:Heap):List MOp→List Ent→St→Prop
 | [],[],_=>True
 | m::r,e::s,σ=>Ev P H0 m e σ∧Evs P H0 r s (e.app σ)
 | _,_,_=>False
def b5r:List Ent→St→St
 | [],σ=>σ
 | e::r,σ=>b5r r (e.app σ)
theorem c3g {P:Program} {H0:Heap} {m:MOp} {σ:St} {gs:List Nat} {k:Ent→Prop} (h:f6m P H0 m σ gs k):∃e,e.dst=m.dst∧Ran P H0 m e σ gs∧k e:=by
 unfold f6m at h
 cases hc:a1k H0 σ (m.ins.creates m.d) with
 | false=>rw [hc] at h;exact h.elim
 | true =>
  rw [hc] at h
  simp only [vO] at h
  obtain ⟨f,h1,h2⟩:=c6q h
  exact ⟨_,rfl,⟨f,rfl,h2,rfl,rfl,rfl⟩,h1.elim id id⟩
theorem a9v {P:Program} {H0:Heap} {K:List Ent→St→Prop}:∀{ms:List MOp} {log:List Ent} {σ:St},c6y P H0 ms log σ K→∃es,Evs P H0 ms es σ∧K (es.reverse++log) (b5r es σ)
 | [],log,σ,h=>⟨[],trivial,by simpa [b5r,c6y] using h⟩
 | m::r,log,σ,h=>by
  simp only [c6y] at h
  cases hg:m.guard with
  | none =>
   rw [hg] at h
   obtain ⟨e,h1,h2,h3⟩:=c3g h
   obtain ⟨es,h4,h5⟩:=a9v h3
   exact ⟨e::es,⟨⟨h1,.inl ⟨hg,h2⟩⟩,h4⟩,by simpa [b5r] using h5⟩
  | some p =>
   obtain ⟨s,want⟩:=p
   rw [hg] at h
   simp only at h
   split at h
   case h_3=>exact h.elim
   case h_2 hb =>
    obtain ⟨es,h4,h5⟩:=a9v h
    exact ⟨_::es,⟨⟨rfl,.inr (.inr ⟨s,want,hg,hb,by simp,rfl⟩)⟩,h4⟩,by simpa [b5r] using h5⟩
   rename_i b hb
   obtain ⟨hx,hy⟩:=h
   have hf:=b0c hb
   by_cases hbw:b=want
   ·subst hbw
    have hx:=hx rfl
    rw [a5o hf] at hx
    obtain ⟨e,h1,h2,h3⟩:=c3g hx
    obtain ⟨es,h4,h5⟩:=a9v h3
    obtain ⟨f,k1,k2,k3,k4,k5⟩:=h2
    exact ⟨e::es,⟨⟨h1,.inr (.inl ⟨s,b,b,hg,hb,by rw [k3];simp,.inl ⟨rfl,f,k1,k2,k3,k4,k5⟩⟩)⟩,h4⟩,by simpa [b5r] using h5⟩
   ·have hbn:b=(!want):=by cases b<;>cases want<;>first|rfl|exact absurd rfl hbw
    have hy:=hy hbn
    rw [←hbn,a5o hf] at hy
    obtain ⟨es,h4,h5⟩:=a9v hy
    exact ⟨_::es,⟨⟨rfl,.inr (.inl ⟨s,want,b,hg,hb,by simp,.inr ⟨hbn,rfl⟩⟩)⟩,h4⟩,by simpa [b5r] using h5⟩
def fold (E:Nat→Bool):Nat→List Ent→St→St
 | _,[],σ=>σ
 | i,e::r,σ=>fold E (i+1) r (bif E i then e.app σ else σ)
def Ent.wr (e:Ent) (s:Nat):Prop:=e.dst=some s
theorem a9g {e:Ent} {σ:St} {s:Nat}:find s (e.app σ).env=if e.dst=some s then (match e.eff with|some f=>some f.val|none=>some (.tup [])) else find s σ.env:=by
 unfold Ent.app
 cases he:e.eff with
 | some f =>
  cases hd:e.dst with
  | none=>simp [St.app,c4f]
  | some d =>
   simp only [St.app,c4f,a10,xO]
   by_cases h:s=d
   ·simp [h]
   ·have:¬d=s:=fun e=>h e.symm
    simp [h,this]
 | none =>
  cases hd:e.dst with
  | none=>simp [a7c]
  | some d =>
   simp only [a7c,a10,xO]
   by_cases h:s=d
   ·simp [h]
   ·have:¬d=s:=fun e=>h e.symm
    simp [h,this]
theorem b6b {n:Nat}:∀{l:List (Nat×a0i)} {H H':Heap},(find n H=find n H'∨∃o,(n,o)∈l)→find n (puts l H)=find n (puts l H')
 | [],H,H',h=>by
  rcases h with h|⟨o,h⟩
  ·exact h
  ·cases h
 | (m,o)::r,H,H',h=>by
  simp only [puts]
  refine b6b ?_
  rw [a10,a10]
  by_cases e:n=m
  ·exact .inl (by simp [e])
  ·rcases h with h|⟨o',h⟩
   ·exact .inl (by simp [e,h])
   ·rcases wY.1 h with h|h
    ·cases h;exact absurd rfl e
    ·exact .inr ⟨o',h⟩
theorem c1v {f:Eff} {n:Nat} {H H':Heap} (h:n∈f.ids):find n (f.heap H)=find n (f.heap H'):=by
 unfold Eff.heap
 refine b6b ?_
 simp only [Eff.ids,wL,vE] at h
 rcases h with h|⟨p,hp,rfl⟩
 ·exact .inl (by rw [a6k,a6k];simp [h])
 ·exact .inr ⟨p.2,hp⟩
theorem b9p {f:Eff} {n:Nat} {H:Heap} (h:n∉f.ids):find n (f.heap H)=find n H:=by
 unfold Eff.heap
 simp only [Eff.ids,wL,vE,not_or,not_exists,not_and] at h
 rw [a2a (fun o ho=>h.2 (n,o) ho rfl),a6k]
 simp [h.1]
theorem b5a {e:Ent} {σ τ:St} {n:Nat} (h:n∈e.ids):find n (e.app σ).heap=find n (e.app τ).heap:=by
 unfold Ent.app
 cases he:e.eff with
 | some f=>exact c1v (by simpa [Ent.ids,he] using h)
 | none=>simp [Ent.ids,he] at h
theorem a2z {e:Ent} {σ:St} {n:Nat} (h:n∉e.ids):find n (e.app σ).heap=find n σ.heap:=by
 unfold Ent.app
 cases he:e.eff with
 | some f=>exact b9p (by simpa [Ent.ids,he] using h)
 | none=>rfl
theorem b3k {E E':Nat→Bool} {s:Nat}:∀{es:List Ent} {i:Nat} {σ τ:St},find s σ.env=find s τ.env→(∀k e,es[k]?=some e→E (i+k)≠E' (i+k)→e.dst≠some s) →
  find s (fold E i es σ).env=find s (fold E' i es τ).env
 | [],i,σ,τ,h,_=>h
 | e::r,i,σ,τ,h,hk=>by
  simp only [fold]
  refine b3k ?_ fun k e' hk' hne=>hk (k+1) e' (by simpa using hk') (by rw [show i+(k+1)=i+1+k from by omega];exact hne)
  have h0:=hk 0 e rfl
  rw [vD] at h0
  cases hE:E i<;>cases hE':E' i<;>simp only [vO,vM]
  ·exact h
  ·rw [a9g,if_neg (h0 (by simp [hE,hE']))];exact h
  ·rw [a9g,if_neg (h0 (by simp [hE,hE']))];exact h
  ·rw [a9g,a9g,h]
theorem a7y {E E':Nat→Bool} {n:Nat}:∀{es:List Ent} {i:Nat} {σ τ:St},find n σ.heap=find n τ.heap→(∀k e,es[k]?=some e→E (i+k)≠E' (i+k)→n∉e.ids) →
  find n (fold E i es σ).heap=find n (fold E' i es τ).heap
 | [],i,σ,τ,h,_=>h
 | e::r,i,σ,τ,h,hk=>by
  simp only [fold]
  refine a7y ?_ fun k e' hk' hne=>hk (k+1) e' (by simpa using hk') (by rw [show i+(k+1)=i+1+k from by omega];exact hne)
  have h0:=hk 0 e rfl
  rw [vD] at h0
  cases hE:E i<;>cases hE':E' i<;>simp only [vO,vM]
  ·exact h
  ·rw [a2z (h0 (by simp [hE,hE']))];exact h
  ·rw [a2z (h0 (by simp [hE,hE']))];exact h
  ·by_cases hm:n∈e.ids
   ·exact b5a hm
   ·rw [a2z hm,a2z hm];exact h
theorem b0d {E:Nat→Bool} {s j:Nat} {e:Ent}:∀{es:List Ent} {i:Nat} {σ τ:St},es[j]?=some e→E (i+j)=true→e.dst=some s→(∀k e',es[k]?=some e'→j<k→E (i+k)=true→e'.dst≠some s) →
  find s (fold E i es σ).env=find s (e.app τ).env
 | [],i,σ,τ,h,_,_,_=>by simp at h
 | e0::r,i,σ,τ,h,hE,hd,hk=>by
  simp only [fold]
  cases j with
  | zero =>
   simp at h;subst h
   rw [vD] at hE
   rw [hE,vO]
   have:find s (fold E (i+1) r (e0.app σ)).env=find s (fold (fun _=>false) (i+1) r (e0.app σ)).env :=
    b3k rfl fun k e' hk' hne=>hk (k+1) e' (by simpa using hk') (by omega) (by rw [show i+(k+1)=i+1+k from by omega];simpa using hne)
   rw [this]
   have none':∀(l:List Ent) (i:Nat) (σ:St),fold (fun _=>false) i l σ=σ:=by
    intro l
    induction l with
    | nil=>intro i σ;rfl
    | cons a l ih=>intro i σ;simp only [fold,vM];exact ih _ _
   rw [none',a9g,a9g,if_pos hd,if_pos hd]
  | succ j =>
   exact b0d (by simpa using h) (by rw [show i+1+j=i+(j+1) from by omega];exact hE) hd fun k e' hk' hlt he=>hk (k+1) e' (by simpa using hk') (by omega) (by rw [show i+(k+1)=i+1+k from by omega];exact he)
theorem a92 {E:Nat→Bool} {n j:Nat} {e:Ent}:∀{es:List Ent} {i:Nat} {σ τ:St},es[j]?=some e→E (i+j)=true→n∈e.ids→(∀k e',es[k]?=some e'→j<k→E (i+k)=true→n∉e'.ids) →
  find n (fold E i es σ).heap=find n (e.app τ).heap
 | [],i,σ,τ,h,_,_,_=>by simp at h
 | e0::r,i,σ,τ,h,hE,hd,hk=>by
  simp only [fold]
  cases j with
  | zero =>
   simp at h;subst h
   rw [vD] at hE
   rw [hE,vO]
   have:find n (fold E (i+1) r (e0.app σ)).heap=find n (fold (fun _=>false) (i+1) r (e0.app σ)).heap :=
    a7y rfl fun k e' hk' hne=>hk (k+1) e' (by simpa using hk') (by omega) (by rw [show i+(k+1)=i+1+k from by omega];simpa using hne)
   rw [this]
   have none':∀(l:List Ent) (i:Nat) (σ:St),fold (fun _=>false) i l σ=σ:=by
    intro l
    induction l with
    | nil=>intro i σ;rfl
    | cons a l ih=>intro i σ;simp only [fold,vM];exact ih _ _
   rw [none']
   exact b5a hd
  | succ j =>
   exact a92 (by simpa using h) (by rw [show i+1+j=i+(j+1) from by omega];exact hE) hd fun k e' hk' hlt he=>hk (k+1) e' (by simpa using hk') (by omega) (by rw [show i+(k+1)=i+1+k from by omega];exact he)
theorem c3l:∀{es:List Ent} {E:Nat→Bool} {i:Nat} {σ:St},(∀k,k<es.length→E (i+k)=true)→fold E i es σ=b5r es σ
 | [],_,_,_,_=>rfl
 | e::r,E,i,σ,h=>by
  have h0:=h 0 (by simp)
  rw [vD] at h0
  simp only [fold,b5r,h0,vO]
  exact c3l fun k hk=>by
   have:=h (k+1) (by simpa using hk)
   rw [show i+(k+1)=i+1+k from by omega] at this;exact this
theorem b4r:∀{es:List Ent} {E:Nat→Bool} {i:Nat} {σ:St},(∀k,E (i+k)=false)→fold E i es σ=σ
 | [],_,_,_,_=>rfl
 | e::r,E,i,σ,h=>by
  have h0:=h 0
  rw [vD] at h0
  simp only [fold,h0,vM]
  exact b4r fun k=>by
   have:=h (k+1)
   rw [show i+(k+1)=i+1+k from by omega] at this;exact this
theorem b82 {a b:Nat}:Nat.blt a b=true↔a<b:=by
 unfold Nat.blt;exact ⟨zQ,Nat.ble_eq_true_of_le⟩
theorem c96 {P:Program} {H0:Heap}:∀{ms:List MOp} {es:List Ent} {i k:Nat} {σ:St} {m:MOp} {e:Ent},Evs P H0 ms es σ→ms[k]?=some m→es[k]?=some e→Ev P H0 m e (fold (fun j=>decide (j<i+k)) i es σ)
 | [],[],_,k,_,_,_,_,h,_=>by simp at h
 | m0::r,e0::s,i,0,σ,m,e,h,hm,he=>by
  simp at hm he;subst hm;subst he
  rw [b4r (fun k=>by simp)]
  exact h.1
 | m0::r,e0::s,i,k+1,σ,m,e,h,hm,he=>by
  have ih:=c96 (i:=i+1) (k:=k) h.2 (by simpa using hm) (by simpa using he)
  have hE:decide (i<i+(k+1))=true:=by simp
  simp only [fold,hE,vO]
  rw [show i+(k+1)=i+1+k from by omega]
  exact ih
 | [],_::_,_,_,_,_,_,h,_,_=>h.elim
 | _::_,[],_,_,_,_,_,h,_,_=>h.elim
theorem c1u {P:Program} {H0:Heap}:∀{ms:List MOp} {es:List Ent} {σ:St},Evs P H0 ms es σ→es.length=ms.length
 | [],[],_,_=>rfl
 | _::_,_::_,_,h=>by simp [c1u h.2]
 | [],_::_,_,h=>h.elim
 | _::_,[],_,h=>h.elim
theorem b0k {l q:List Nat} (h:d5j l q=true) {n:Nat} (h1:n∈l) (h2:n∈q):False:=by
 induction l with
 | nil=>cases h1
 | cons m r ih =>
  simp only [d5j,wE,xV] at h
  rcases wY.1 h1 with rfl|h1
  ·have:=mem_iff.2 h2;rw [h.1] at this;cases this
  ·exact ih h.2 h1
structure Apart (x y:Ent):Prop where
 du:∀d,x.dst=some d→d∉y.uses
 ud:∀d,y.dst=some d→d∉x.uses
 dd:∀d,x.dst=some d→y.dst≠some d
 it:∀n,n∈x.ids→n∉y.touch
 ti:∀n,n∈y.ids→n∉x.touch
 ii:∀n,n∈x.ids→n∉y.ids
theorem b0r {x y:Ent} (h:apart x y=true):Apart x y:=by
 simp only [apart,wE,xV] at h
 obtain ⟨⟨⟨⟨⟨h1,h2⟩,h3⟩,h4⟩,h5⟩,h6⟩:=h
 refine ⟨fun d hd hm=>?_,fun d hd hm=>?_,fun d hd he=>?_,fun n a b=>b0k h4 a b,fun n a b=>b0k h5 a b,fun n a b=>b0k h6 a b⟩
 ·rw [hd] at h1;simp only [oneOf] at h1;rw [mem_iff.2 hm] at h1;cases h1
 ·rw [hd] at h2;simp only [oneOf] at h2;rw [mem_iff.2 hm] at h2;cases h2
 ·rw [hd,he] at h3;simp at h3
theorem Apart.symm {x y:Ent} (h:Apart x y):Apart y x :=
 ⟨h.ud,h.du,fun d h1 h2=>h.dd d h2 h1,h.ti,h.it,fun n h1 h2=>h.ii n h2 h1⟩
structure b2v (x y:Ent):Prop where
 du:∀d,x.dst=some d→d∉y.uses
 ud:∀d,y.dst=some d→d∉x.uses
 dd:∀d,x.dst=some d→y.dst≠some d
 ii:∀n,n∈x.ids→n∉y.ids
theorem Apart.a0 {x y:Ent} (h:Apart x y):b2v x y:=⟨h.du,h.ud,h.dd,h.ii⟩
theorem b2v.symm {x y:Ent} (h:b2v x y):b2v y x:=⟨h.ud,h.du,fun d h1 h2=>h.dd d h2 h1,fun n h1 h2=>h.ii n h2 h1⟩
theorem a6x {r:List Ent} {x y:Ent} (h:late r x y=true):b2v x y∧(∀n,n∈x.ids→n∉y.touch)∧∃v i d o,y.eff=some ⟨v,[i],[(d,o)]⟩∧d∉x.touch∧b5n i d r≤1∧i≠d:=by
 simp only [late,wE,xV] at h
 obtain ⟨⟨⟨⟨⟨h1,h2⟩,h3⟩,h4⟩,h5⟩,h6⟩:=h
 refine ⟨⟨fun d hd hm=>?_,fun d hd hm=>?_,fun d hd he=>?_,fun n a b=>b0k h5 a b⟩,fun n a b=>b0k h4 a b,?_⟩
 ·rw [hd] at h1;simp only [oneOf] at h1;rw [mem_iff.2 hm] at h1;cases h1
 ·rw [hd] at h2;simp only [oneOf] at h2;rw [mem_iff.2 hm] at h2;cases h2
 ·simp only [hd,he] at h3;simp at h3
 ·split at h6
  ·rename_i f hf
   obtain ⟨v,dr,nw⟩:=f
   simp only at h6
   split at h6
   ·rename_i i d o
    simp only [wE,xV] at h6
    refine ⟨v,_,_,_,hf,fun hm=>?_,zQ h6.1.2,fun he=>?_⟩
    ·have:=mem_iff.2 hm
     rw [h6.1.1] at this;cases this
    ·rw [he] at h6;simp at h6
   ·cases h6
  ·cases h6
theorem b7p {i d:Nat}:∀{r:List Ent} {j:Nat} {x:Ent},r[j]?=some x→(i∈x.ids∨d∈x.ids)→1≤b5n i d r
 | [],_,_,h,_=>by simp at h
 | z::r,0,x,h,hm=>by
  simp at h;subst h
  have:(mem i z.ids||mem d z.ids)=true:=by
   rcases hm with hm|hm
   ·simp [mem_iff.2 hm]
   ·simp [mem_iff.2 hm]
  simp only [b5n,this,vO];omega
 | z::r,j+1,x,h,hm=>by
  have:=b7p (r:=r) (j:=j) (by simpa using h) hm
  simp only [b5n];omega
theorem b4a {i d:Nat}:∀{r:List Ent} {j k:Nat} {x y:Ent},b5n i d r≤1→r[j]?=some x→r[k]?=some y→(i∈x.ids∨d∈x.ids)→(i∈y.ids∨d∈y.ids)→j=k
 | [],_,_,_,_,_,h,_,_,_=>by simp at h
 | z::r,0,0,_,_,_,_,_,_,_=>rfl
 | z::r,0,k+1,x,y,hl,hx,hy,h1,h2=>by
  exfalso
  simp at hx;subst hx
  have a:=b7p (r:=r) (j:=k) (by simpa using hy) h2
  have b:(mem i z.ids||mem d z.ids)=true:=by
   rcases h1 with hm|hm
   ·simp [mem_iff.2 hm]
   ·simp [mem_iff.2 hm]
  simp only [b5n,b,vO] at hl;omega
 | z::r,j+1,0,x,y,hl,hx,hy,h1,h2=>by
  exfalso
  simp at hy;subst hy
  have a:=b7p (r:=r) (j:=j) (by simpa using hx) h1
  have b:(mem i z.ids||mem d z.ids)=true:=by
   rcases h2 with hm|hm
   ·simp [mem_iff.2 hm]
   ·simp [mem_iff.2 hm]
  simp only [b5n,b,vO] at hl;omega
 | z::r,j+1,k+1,x,y,hl,hx,hy,h1,h2=>by
  simp only [b5n] at hl
  have:j=k:=b4a (r:=r) (j:=j) (k:=k) (x:=x) (y:=y) (by omega) (by simpa using hx) (by simpa using hy) h1 h2
  rw [this]
theorem b4f {all:List MOp} {m:MOp} {l:Nat}:∀{r:List Nat},b7q all m r=true→mem (1000000+l) r=true→m.ins.isApp=true∧∃q,all[l]?=some q∧q.ins.isLd=true
 | [],_,h=>by simp [mem] at h
 | x::r,h,hm=>by
  simp only [b7q,wE] at h
  rcases wY.1 (mem_iff.1 hm) with e|hm
  ·subst e
   have hb:Nat.blt (1000000+l) 1000000=false:=by
    cases hb:Nat.blt (1000000+l) 1000000 with
    | false=>rfl
    | true=>have:=b82.1 hb;omega
   have h1:=h.1
   rw [hb,w5,wE] at h1
   refine ⟨h1.1,?_⟩
   have e:1000000+l - 1000000=l:=by omega
   rw [e] at h1
   cases hq:all[l]? with
   | none=>rw [hq] at h1;cases h1.2
   | some q=>rw [hq] at h1;exact ⟨q,rfl,h1.2⟩
  ·exact b4f h.2 (mem_iff.2 hm)
theorem b4g {all:List MOp} {l:Nat}:∀{ms:List MOp} {anc:List (List Nat)} {k:Nat} {a:List Nat} {m:MOp},b07 all ms anc=true→anc[k]?=some a→ms[k]?=some m→mem (1000000+l) a=true→m.ins.isApp=true∧∃q,all[l]?=some q∧q.ins.isLd=true
 | [],_,_,_,_,_,_,h,_=>by simp at h
 | _::_,[],_,_,_,_,h,_,_=>by simp at h
 | m0::r,a0::s,0,a,m,h,ha,hm,hl=>by
  simp only [b07,wE] at h
  simp at ha hm;subst ha;subst hm
  exact b4f h.1 hl
 | m0::r,a0::s,k+1,a,m,h,ha,hm,hl=>by
  simp only [b07,wE] at h
  exact b4g h.2 (by simpa using ha) (by simpa using hm) hl
def e0y (x:Ent) (l:List Nat):Prop:=∀n∈l,∀f,x.eff=some f→f.val.has n=false∧a1h n f.new=true
theorem b05 {x:Ent}:∀{l:List Nat},c7u x l=true→e0y x l
 | [],_,n,hn=>by cases hn
 | m::r,h,n,hn=>by
  simp only [c7u,wE] at h
  rcases wY.1 hn with rfl|hn
  ·intro f hf
   rw [hf] at h
   simp only [wE,xV] at h
   exact h.1
  ·exact b05 h.2 n hn
theorem b9v {i:Nat} {x:Ent} {all:List Ent}:∀{anc:List (List Nat)} {r:List Ent} {k:Nat} {a:List Nat} {y:Ent},b6r i x all anc r=true→anc[k]?=some a→r[k]?=some y→b2e (Nat.blt i 1000000&&mem i a) (mem (1000000+i) a) all x y=true
 | _,[],k,_,_,_,_,h=>by simp at h
 | [],_::_,k,_,_,_,h,_=>by simp at h
 | a0::anc,y0::r,0,a,y,h,ha,hy=>by
  simp only [b6r,wE (b6r _ _ _ _ _),wE (b2e _ _ _ _ _)] at h
  simp at ha hy;subst ha;subst hy;exact h.1
 | a0::anc,y0::r,k+1,a,y,h,ha,hy=>by
  simp only [b6r,wE (b2e _ _ _ _ _)] at h
  exact b9v h.2 (by simpa using ha) (by simpa using hy)
theorem b0l {H0:Heap} {σ:St}:∀{i:Nat} {anc:List (List Nat)} {es:List Ent} {j k:Nat} {a:List Nat} {x y:Ent},a3h H0 σ i anc es=true→j<k→anc[k]?=some a→es[j]?=some x→es[k]?=some y →
  b2e (Nat.blt (i+j) 1000000&&mem (i+j) a) (mem (1000000+(i+j)) a) (es.drop (j+1)) x y=true
 | _,_,[],j,_,_,_,_,_,_,_,h,_=>by simp at h
 | _,[],_::_,_,k,_,_,_,_,_,h,_,_=>by simp at h
 | i,a0::anc,x0::r,0,k,a,x,y,h,hlt,ha,hx,hy=>by
  simp only [a3h,wE] at h
  simp at hx;subst hx
  cases k with
  | zero=>omega
  | succ k=>exact b9v h.1.2 (by simpa using ha) (by simpa using hy)
 | i,a0::anc,x0::r,j+1,k,a,x,y,h,hlt,ha,hx,hy=>by
  simp only [a3h,wE] at h
  cases k with
  | zero=>omega
  | succ k =>
   have:=b0l (i:=i+1) (j:=j) (k:=k) h.2 (by omega) (by simpa using ha) (by simpa using hx) (by simpa using hy)
   rw [show i+(j+1)=i+1+j from by omega];exact this
theorem b2q {c:Ctx} {σ:St}:∀{i:Nat} {anc:List (List Nat)} {es:List Ent} {j:Nat} {x:Ent},a3h c.H0 σ i anc es=true→es[j]?=some x→∀n∈x.made,Clean c σ n
 | _,_,[],j,_,_,h=>by simp at h
 | _,[],_::_,_,_,h,_=>by simp [a3h] at h
 | i,a0::anc,x0::r,0,x,h,hx=>by
  simp only [a3h,wE] at h
  simp at hx;subst hx
  exact a1t h.1.1
 | i,a0::anc,x0::r,j+1,x,h,hx=>by
  simp only [a3h,wE] at h
  exact b2q h.2 (by simpa using hx)
theorem b43 {n d:Nat} {x:V}:∀{env:List (Nat×V)},a7u n env=true→x.has n=false→a7u n (put d x env)=true
 | [],_,hx=>by simp [put,a7u,hx]
 | (m,y)::r,h,hx=>by
  simp only [a7u,wE] at h
  simp only [put]
  cases Nat.beq d m with
  | true=>simp only [vO,a7u,hx,h.2,wV,w6]
  | false=>simp only [vM,a7u,h.1,b43 h.2 hx,w6]
theorem b6g {n d:Nat} {x:a0i}:∀{H:Heap},a1h n H=true→x.has n=false→a1h n (put d x H)=true
 | [],_,hx=>by simp [put,a1h,hx]
 | (m,y)::r,h,hx=>by
  simp only [a1h,wE] at h
  simp only [put]
  cases Nat.beq d m with
  | true=>simp only [vO,a1h,hx,h.2,wV,w6]
  | false=>simp only [vM,a1h,h.1,b6g h.2 hx,w6]
theorem b1m {n d:Nat}:∀{H:Heap},a1h n H=true→a1h n (del d H)=true
 | [],_=>rfl
 | (m,y)::r,h=>by
  simp only [a1h,wE] at h
  simp only [del]
  cases Nat.beq d m with
  | true=>exact b1m h.2
  | false=>simp only [vM,a1h,h.1,b1m h.2,w6]
theorem b42 {n:Nat}:∀{l:List Nat} {H:Heap},a1h n H=true→a1h n (c9f l H)=true
 | [],_,h=>h
 | d::r,_,h=>b42 (l:=r) (b1m h)
theorem b41 {n:Nat}:∀{l:List (Nat×a0i)} {H:Heap},a1h n H=true→a1h n l=true→a1h n (puts l H)=true
 | [],_,h,_=>h
 | (d,o)::r,_,h,hl=>by
  simp only [a1h,wE,xV] at hl
  exact b41 (l:=r) (b6g h hl.1) hl.2
theorem c9l {c:Ctx} {σ:St} {e:Ent} {n:Nat} (h:Clean c σ n) (hm:∀f,e.eff=some f→f.val.has n=false∧a1h n f.new=true):Clean c (e.app σ) n:=by
 unfold Ent.app
 cases he:e.eff with
 | none =>
  refine ⟨h.1,?_,h.2.2⟩
  cases hd:e.dst with
  | none=>exact h.2.1
  | some d=>exact b43 h.2.1 rfl
 | some f =>
  obtain ⟨h1,h2⟩:=hm f he
  refine ⟨h.1,?_,b41 (b42 h.2.2) h2⟩
  cases hd:e.dst with
  | none=>exact h.2.1
  | some d=>exact b43 h.2.1 h1
theorem b6q {c:Ctx} {n:Nat} {E:Nat→Bool}:∀{es:List Ent} {i:Nat} {σ:St},Clean c σ n→(∀k e,es[k]?=some e→E (i+k)=true→∀f,e.eff=some f→f.val.has n=false∧a1h n f.new=true)→Clean c (fold E i es σ) n
 | [],_,_,h,_=>h
 | e::r,i,σ,h,hk=>by
  simp only [fold]
  refine b6q ?_ fun k e' he' hE=>hk (k+1) e' (by simpa using he') (by rw [show i+(k+1)=i+1+k from by omega];exact hE)
  have h0:=hk 0 e rfl
  rw [vD] at h0
  cases hE:E i with
  | true=>exact c9l h (h0 hE)
  | false=>exact h
theorem b44:∀{a b:List Nat},b45 a b=true→a=b
 | [],[],_=>rfl
 | x::a,y::b,h=>by
  simp only [b45,wE] at h
  rw [zR h.1,b44 h.2]
 | [],_::_,h=>by simp [b45] at h
 | _::_,[],h=>by simp [b45] at h
theorem c42:∀{aft:List (List Nat)} {os:List Oper} {k:Nat} {o:Oper},b39 aft os=true→os[k]?=some o→∃a,aft[k]?=some a∧a=(o.after.toList.filter (Region.binds .any)).map (·.on)
 | [],[],k,o,_,h=>by simp at h
 | a::r,o'::s,0,o,h,ho=>by
  simp only [b39,wE] at h
  simp at ho;subst ho
  exact ⟨a,rfl,b44 h.1⟩
 | a::r,o'::s,k+1,o,h,ho=>by
  simp only [b39,wE] at h
  obtain ⟨b,h1,h2⟩:=c42 h.2 (k:=k) (by simpa using ho)
  exact ⟨b,by simpa using h1,h2⟩
 | [],_::_,_,_,h,_=>by simp [b39] at h
 | _::_,[],_,_,h,_=>by simp [b39] at h
theorem b0p {j:Nat}:∀{l:List Nat},below j l=true→∀n∈l,n<j
 | [],_,n,h=>by cases h
 | m::r,h,n,hn=>by
  simp only [below,wE] at h
  rcases wY.1 hn with rfl|hn
  ·exact b82.1 h.1
  ·exact b0p h.2 n hn
theorem b6x {aft:List Nat} {anc:List (List Nat)}:∀{l:List Nat},c01 aft anc l=true→∀n∈l,n<1000000→n∈aft∨∃m∈aft,n∈anc.getD m []
 | [],_,n,h,_=>by cases h
 | m::r,h,n,hn,hlt=>by
  simp only [c01,wE,wR,List.any_eq_true] at h
  rcases wY.1 hn with rfl|hn
  ·rcases h.1 with (h1|h1)|⟨m,h1,h2⟩
   ·exact absurd (zQ h1) (by omega)
   ·exact .inl (mem_iff.1 h1)
   ·exact .inr ⟨m,h1,mem_iff.1 h2⟩
  ·exact b6x h.2 n hn hlt
theorem a7e {all:List (List Nat)}:∀{j:Nat} {aft anc:List (List Nat)} {k:Nat} {a:List Nat},b0s all j aft anc=true→aft[k]?=some a→∃b,anc[k]?=some b∧below (j+k) a=true∧c01 a all b=true
 | j,[],[],k,a,_,h=>by simp at h
 | j,a0::aft,b0::anc,0,a,h,ha=>by
  simp only [b0s,wE] at h
  simp at ha;subst ha
  exact ⟨b0,rfl,h.1.1,h.1.2⟩
 | j,a0::aft,b0::anc,k+1,a,h,ha=>by
  simp only [b0s,wE] at h
  obtain ⟨b,h1,h2,h3⟩:=a7e h.2 (k:=k) (by simpa using ha)
  exact ⟨b,by simpa using h1,by rw [show j+(k+1)=j+1+k from by omega];exact h2,h3⟩
 | _,[],_::_,_,_,h,_=>by simp [b0s] at h
 | _,_::_,[],_,_,h,_=>by simp [b0s] at h
theorem b6w {all:List (List Nat)} {aft:List (List Nat)} {E:Nat→Bool} (hok:b0s all 0 aft all=true) (hE:∀k a,aft[k]?=some a→E k=true→∀x∈a,E x=true) :
  ∀(k:Nat) (a b:List Nat),aft[k]?=some a→all[k]?=some b→(∀x∈a,E x=true)→∀x∈b,x<1000000→E x=true:=by
 intro k
 induction k using Nat.strongRecOn with
 | _ k ih =>
  intro a b ha hb hall x hx hxl
  obtain ⟨b',h1,h2,h3⟩:=a7e hok ha
  rw [hb] at h1;cases h1
  rw [vA] at h2
  rcases b6x h3 x hx hxl with h|⟨m,h4,h5⟩
  ·exact hall x h
  ·have hm:=b0p h2 m h4
   cases hbm:all[m]? with
   | none=>rw [zE,hbm] at h5;simp at h5
   | some bm =>
    rw [zE,hbm] at h5
    have hmk:m<aft.length:=Nat.lt_trans hm (zG.1 ha).1
    exact ih m hm aft[m] bm (zJ hmk) hbm (hE m _ (zJ hmk) (hall m h4)) x h5 hxl
def a6s (E:Nat→Bool) (i:Nat):Nat→Bool:=fun k=>bif Nat.beq k i then true else E k
theorem a4w {E:Nat→Bool} {i:Nat}:a6s E i i=true:=by simp [a6s]
theorem a3a {E:Nat→Bool} {i k:Nat} (h:k≠i):a6s E i k=E k:=by
 have:Nat.beq k i=false:=by
  cases hb:Nat.beq k i with
  | true=>exact absurd (zR hb) h
  | false=>rfl
 simp [a6s,this]
theorem Rel.congr {P:Program} {c:Ctx} {g:Gh} {σ τ:St} {a:Act} {w:World} (h:Rel P c g σ a w) (he:∀s,find s τ.env=find s σ.env) (hh:∀s,find s τ.heap=find s σ.heap):Rel P c g τ a w :=
 h.sub (fun s x hx=>by rw [←he];exact hx) fun s o ho=>by rw [←hh];exact ho
theorem b06 {n:Nat}:∀{l:List Opd},Opd.t n∈l→n∈slotsOf l
 | .t m::r,h=>by
  rcases wY.1 h with h|h
  ·cases h;exact xG
  ·exact xA _ (b06 h)
 | .c _::r,h=>by
  rcases wY.1 h with h|h
  ·cases h
  ·exact b06 (l:=r) h
 | .f _::r,h=>by
  rcases wY.1 h with h|h
  ·cases h
  ·exact b06 (l:=r) h
theorem d3q {env env':List (Nat×V)}:∀{l:List Opd},(∀n∈slotsOf l,find n env=find n env')→l.map (·.ev env)=l.map (·.ev env'):=by
 intro l h
 refine List.map_congr_left fun x hx=>?_
 cases x with
 | t n=>simp only [Opd.ev,a2f,h n (b06 hx)]
 | c v=>rfl
 | f n=>rfl
theorem b8u {P:Program} {nt:Nat} {ops:Array Oper}:∀{ms:List MOp} {os:List Oper} {k:Nat} {o:Oper},a1p P nt ops ms os=true→os[k]?=some o→∃m,ms[k]?=some m∧m.ok P nt ops o=true
 | [],[],k,o,_,h=>by simp at h
 | m::r,o'::s,0,o,h,ho=>by
  simp only [a1p,wE] at h
  simp at ho;subst ho
  exact ⟨m,rfl,h.1⟩
 | m::r,o'::s,k+1,o,h,ho=>by
  simp only [a1p,wE] at h
  obtain ⟨b,h1,h2⟩:=b8u h.2 (k:=k) (by simpa using ho)
  exact ⟨b,by simpa using h1,h2⟩
 | [],_::_,_,_,h,_=>by cases h
 | _::_,[],_,_,h,_=>by cases h
theorem b6i {P:Program} {nt:Nat} {ops:Array Oper}:∀{ms:List MOp} {l:List Oper},a1p P nt ops ms l=true→ms.length=l.length
 | [],[],_=>rfl
 | m::r,o::s,h=>by
  simp only [a1p,wE] at h
  simp only [wA,b6i h.2]
 | [],_::_,h=>by cases h
 | _::_,[],h=>by cases h
section
variable {P:Program} {c:Ctx} {ops:Array Oper} {ms:List MOp} {es:List Ent} {aft anc:List (List Nat)} {σ0:St} {Q:Exit→Act→World→Prop}
structure Part (aft:List (List Nat)) (E:Nat→Bool) (i:Nat):Prop where
 down:∀k a,aft[k]?=some a→E k=true→∀x∈a,E x=true
 out:E i=false
 ready:∀a,aft[i]?=some a→∀x∈a,E x=true
structure b5e (anc:List (List Nat)) (es:List Ent) (l k:Nat) (x y:Ent):Prop where
 lt:l<k
 fst:es[l]?=some x
 snd:es[k]?=some y
 mark:∃a,anc[k]?=some a∧mem (1000000+l) a=true
 ok:late (es.drop (l+1)) x y=true
theorem b1h {E:Nat→Bool} {i:Nat} {e:Ent} (hanc:b0s anc 0 aft anc=true) (hchk:a3h c.H0 σ0 0 anc es=true) (hl:aft.length=es.length) (hp:Part aft E i) (hi:es[i]?=some e)
  {k:Nat} {e':Ent} (hk:es[k]?=some e') (hne:k≠i) (hE:E k≠decide (k<i)):b2v e e'∧e0y e' e.made∧((∀n,n∈e'.ids→n∉e.touch)∨b5e anc es i k e e'):=by
 have hil:i<aft.length:=by rw [hl];exact (zG.1 hi).1
 have hkl:k<aft.length:=by rw [hl];exact (zG.1 hk).1
 have hai:=zJ hil
 have hak:=zJ hkl
 obtain ⟨bi,hbi,_,_⟩:=a7e hanc hai
 obtain ⟨bk,hbk,_,_⟩:=a7e hanc hak
 by_cases hlt:k<i
 ·have hEk:E k=false:=by
   cases h:E k with
   | false=>rfl
   | true=>rw [h] at hE;simp [hlt] at hE
  have hno:(Nat.blt (0+k) 1000000&&mem (0+k) bi)=false:=by
   cases h:(Nat.blt (0+k) 1000000&&mem (0+k) bi) with
   | false=>rfl
   | true =>
    rw [wE] at h
    have:=b6w hanc hp.down i _ bi hai hbi (hp.ready _ hai) k (by simpa using mem_iff.1 h.2) (by have:=b82.1 h.1;omega)
    rw [hEk] at this;cases this
  have:=b0l hchk hlt hbi hk hi
  rw [hno] at this
  simp only [b2e,w5,wE,wR] at this
  refine ⟨?_,b05 this.1,.inl ?_⟩
  ·rcases this.2.1 with h|h
   ·exact (b0r h).a0.symm
   ·exact (a6x h.2).1.symm
  ·rcases this.2.1 with h|h
   ·exact (b0r h).it
   ·exact (a6x h.2).2.1
 ·have hEk:E k=true:=by
   cases h:E k with
   | true=>rfl
   | false=>rw [h] at hE;simp [hlt] at hE
  have hik:i<k:=by omega
  have hno:(Nat.blt (0+i) 1000000&&mem (0+i) bk)=false:=by
   cases h:(Nat.blt (0+i) 1000000&&mem (0+i) bk) with
   | false=>rfl
   | true =>
    rw [wE] at h
    have:=b6w hanc hp.down k _ bk hak hbk (hp.down k _ hak hEk) i (by simpa using mem_iff.1 h.2) (by have:=b82.1 h.1;omega)
    rw [hp.out] at this;cases this
  have:=b0l hchk hik hbk hi hk
  rw [hno] at this
  simp only [b2e,w5,wE,wR] at this
  refine ⟨?_,b05 this.2.2,?_⟩
  ·rcases this.2.1 with h|h
   ·exact (b0r h).a0
   ·exact (a6x h.2).1
  ·rcases this.2.1 with h|h
   ·exact .inl (b0r h).ti
   ·exact .inr ⟨hik,hi,hk,⟨bk,hbk,by rw [←h.1,vA]⟩,h.2⟩
theorem c4y {E:Nat→Bool} {i:Nat} {e:Ent} (hanc:b0s anc 0 aft anc=true) (hchk:a3h c.H0 σ0 0 anc es=true) (hl:aft.length=es.length) (hp:Part aft E i) (hi:es[i]?=some e)
  {k:Nat} {e':Ent} (hk:es[k]?=some e') (hE:E k=true):e0y e' e.made:=by
 have hne:k≠i:=fun h=>by rw [h,hp.out] at hE;cases hE
 by_cases hlt:k<i
 ·have hil:i<aft.length:=by rw [hl];exact (zG.1 hi).1
  obtain ⟨bi,hbi,_,_⟩:=a7e hanc (zJ hil)
  have:=b0l hchk hlt hbi hk hi
  simp only [b2e,wE] at this
  exact b05 this.1
 ·exact (b1h hanc hchk hl hp hi hk hne (by rw [hE];simp [hlt])).2.1
def d0l (H:Heap) (g:Gh) (w:World) (id k:Nat) (xs:List V) (d:Nat):Prop :=
 xs=[]∨∃(cur:Array Value) (e:TypeId) (fz:Nat×Nat),w.heap[g.ρ id]?=some (.cells cur e fz)∧(∀i x,xs[i]?=some x→(g.base id+i)*k+x.cells.length≤cur.size) ∧
  (∀(i j:Nat) (x y:V),xs[i]?=some x→x.cells[j]?=some y→Rd g.S w (cur.getD ((g.base id+i)*k+j) undef) y)∧(g.S (g.ρ id)∨((∃o,find d H=some o)∧¬g.nil d∧g.ρ d=g.ρ id))
theorem d0l.congr {H H':Heap} {g:Gh} {w:World} {id k d:Nat} {xs:List V} (h:d0l H g w id k xs d) (he:find d H'=find d H):d0l H' g w id k xs d:=by
 rcases h with h|⟨cur,e,fz,h1,h2,h3,h4⟩
 ·exact .inl h
 ·exact .inr ⟨cur,e,fz,h1,h2,h3,h4.imp (fun h=>h) fun h=>⟨by rw [he];exact h.1,h.2⟩⟩
theorem d0l.step {H:Heap} {g g':Gh} {w w':World} {id k d:Nat} {xs:List V} {f:Eff} (h:d0l H g w id k xs d) (hH:a3p P g w H) (hs:a09 g H w f g' w') (hi:id∉f.ids) (hd:d∉f.ids):d0l (f.heap H) g' w' id k xs d:=by
 have hkeep:a2e g.S w w':=fun b hb=>hs.keep b (hH.lt b hb) fun id o _ ho hn he=>hH.sep id o ho hn (he▸hb)
 have nn:∀{n},n∉f.ids→∀o,(n,o)∉f.new:=fun hn o ho=>hn (by simp only [Eff.ids,wL,vE];exact .inr ⟨_,ho,rfl⟩)
 rcases h with h|⟨cur,e,fz,h1,h2,h3,h4⟩
 ·exact .inl h
 ·obtain ⟨a1,a2,a3,a4⟩:=hs.agree id (nn hi)
  obtain ⟨b1,b2,b3,b4⟩:=hs.agree d (nn hd)
  refine .inr ⟨cur,e,fz,?_,fun i x hx=>by rw [a2];exact h2 i x hx,fun i j x y hx hy=>by rw [a2];exact (h3 i j x y hx hy).mono hkeep hs.sup,?_⟩
  ·rw [a1]
   rcases h4 with h4|⟨⟨o,h5⟩,h6,h7⟩
   ·exact (hkeep _ h4).trans h1
   ·refine (hs.keep _ (zF.1 h1).1 fun id0 o0 hid0 ho0 hn0 he=>?_).trans h1
    exact hd (hH.inj id0 d o0 o ho0 h5 hn0 h6 (by rw [he,h7])▸hid0)
  ·rw [a1,b1]
   rcases h4 with h4|⟨h5,h6,h7⟩
   ·exact .inl (hs.sup _ h4)
   ·exact .inr ⟨by rw [Eff.find_other hd];exact h5,fun h=>h6 (b4.1 h),h7⟩
theorem d0m.w {g g':Gh} {w':World} {H:Heap} {id k d:Nat} {xs:List V} (h:d0m g g' w' id k xs d) (ha:g.agree g' id) (hd:∃o,find d H=some o):d0l H g' w' id k xs d:=by
 obtain ⟨a1,a2,a3,a4⟩:=ha
 rcases h with h|⟨cur,e,fz,h1,h2,h3,h4⟩
 ·exact .inl h
 ·refine .inr ⟨cur,e,fz,by rw [a1];exact h1,by rw [a2];exact h2,by rw [a2];exact h3,?_⟩
  rw [a1]
  exact h4.imp (fun h=>h) fun h=>⟨hd,h⟩
theorem g0x {o:Oper} {g:Gh} {σ:St} {a:Act} {w:World} {K L:Eff→Prop} {K':Act→World→Prop} {Q':Exit→Act→World→Prop} {n:Option Nat} {x:Opd} (hok:(a0a.ld n x).ok P o.op=true) (hR:Rel P c g σ a w) {H:Heap} {id k i off d:Nat} {xs:List V} {q:V} (hx:x.ev σ.env=.optr id k i off)
  (hp:d0l H g w id k xs d) (hq:xs[i]?=some q) (h:part n off q.cells (fun r=>K (evl r))) (hF:Fin o c g σ a w K L K'):o.wp P a w K' Q':=by
 have:∃t y,o.op=.load t y∧x.ok y=true∧c41 P t=some n:=by
  cases ho:o.op<;>rw [ho] at hok<;>try (simp [a0a.ok] at hok;done)
  simp [a0a.ok] at hok
  exact ⟨_,_,rfl,hok.1,hok.2⟩
 obtain ⟨t,y,ho,hx',ht⟩:=this
 have vx:=Opd.vr hR hx'
 rw [hx] at vx
 rcases hp with hp|⟨cur,e,fz,h1,h2,h3,h4⟩
 ·rw [hp] at hq;simp at hq
 ·obtain ⟨v,x'',hrun,hk,hv'⟩:=a2c (P:=P) (g:=g) (w:=w) ht (o':=(g.base id+i)*k) (off:=off) h1 (cs:=q.cells) (h2 i q hq) (fun j y hj=>.rd (h3 i j q y hq hj)) h
  exact a0b hR hF (by simp [execOp,ho,Instr.loadAt,vx.optr_inv,Instr.sureAddr,hrun]) (.inl hk) hv'
def c09 (anc:List (List Nat)) (es:List Ent) (σ0:St) (E:Nat→Bool) (g:Gh) (w:World):Prop :=
 ∀l k x y,b5e anc es l k x y→E l=false→E k=true→∀v id d o,y.eff=some ⟨v,[id],[(d,o)]⟩→∀kk xs t,find id (fold (fun j=>decide (j<k)) 0 es σ0).heap=some (.arr kk xs t)→d0l (fold E 0 es σ0).heap g w id kk xs d
theorem d5n {k bytes d:Nat} {ty:Option TypeId} {x y:V} {ob:Nat→Option a0i} {v:V} {id d':Nat} {o:a0i} (h:c2r k bytes d ty x y ob (fun u=>u=⟨v,[id],[(d',o)]⟩)) :
  d'=d∧∃lo n xs t0,x=.osl id k lo n∧ob id=some (.arr k xs t0):=by
 unfold c2r at h
 split at h
 ·obtain ⟨_,h⟩:=h
  split at h
  ·obtain ⟨_,h⟩:=h;simp at h
  ·split at h
   ·rename_i id' k' lo n _ k'' xs t0 hob
    by_cases hb:(Nat.beq k k'&&Nat.beq k k'')=true
    case neg=>simp [hb] at h
    simp only [hb,vO] at h
    simp only [wE] at hb
    have q1:=zR hb.1;subst q1
    have q2:=zR hb.2;subst q2
    obtain ⟨_,h⟩:=h
    simp only [Eff.mk.injEq,wP,Prod.mk.injEq,and_true] at h
    obtain ⟨_,h1,h2,_⟩:=h
    subst h1;subst h2
    exact ⟨rfl,_,_,_,_,rfl,hob⟩
   ·exact h.elim
  ·exact h.elim
 ·exact h.elim
theorem d0z {E:Nat→Bool} {i:Nat} {o:Oper} {m:MOp} {e:Ent} {g:Gh} {a:Act} {w:World} {K':Act→World→Prop} (hlate:b07 ms ms anc=true) (hevs:Evs P c.H0 ms es σ0) (hms:ms[i]?=some m) (hanc:b0s anc 0 aft anc=true) (hchk:a3h c.H0 σ0 0 anc es=true) (hl:aft.length=es.length)
  (hp:Part aft E i) (ho:ops[i]?=some o) (hm:m.ok P c.nt ops o=true) (hi:es[i]?=some e) (hev:Ev P c.H0 m e (fold (fun j=>decide (j<i)) 0 es σ0)) (hR:Rel P c g (fold E 0 es σ0) a w) (hP:c09 anc es σ0 E g w)
  (hK:∀g' a' w',Rel P c g' (fold (a6s E i) 0 es σ0) a' w'→c09 anc es σ0 (a6s E i) g' w'→K' a' w'):wpOp P ops Q i K' a w:=by
 have hm':=hm
 simp only [MOp.ok,wE] at hm'
 obtain ⟨⟨hins,h2⟩,h3⟩:=hm'
 obtain ⟨hdd,hlt⟩:=b0j h2
 obtain ⟨hdst,hev⟩:=hev
 have apt:∀{k:Nat} {e':Ent},es[k]?=some e'→k≠i→E k≠decide (k<i)→b2v e e':=fun hk hne hE=>(b1h hanc hchk hl hp hi hk hne hE).1
 have henv:∀s∈e.uses,find s (fold E 0 es σ0).env=find s (fold (fun j=>decide (j<i)) 0 es σ0).env:=fun s hs=>b3k rfl fun k e' hk hne hd=>by
  rw [vA] at hne
  by_cases hki:k=i
  ·subst hki;rw [hp.out] at hne;simp at hne
  ·exact (apt hk hki hne).ud s hd hs
 have hheap:∀n∈e.touch,find n (fold E 0 es σ0).heap=find n (fold (fun j=>decide (j<i)) 0 es σ0).heap∨∃k e',n∈e'.ids∧E k=true∧b5e anc es i k e e':=fun n hn=>by
  by_cases hx:∃k e',n∈e'.ids∧E k=true∧b5e anc es i k e e'
  ·exact .inr hx
  ·refine .inl (a7y rfl fun k e' hk hne hd=>?_)
   rw [vA] at hne
   by_cases hki:k=i
   ·subst hki;rw [hp.out] at hne;simp at hne
   ·rcases (b1h hanc hchk hl hp hi hk hki hne).2.2 with h|h
    ·exact h n hd hn
    ·refine hx ⟨k,e',hd,?_,h⟩
     have:=h.lt
     cases hE:E k with
     | true=>rfl
     | false=>rw [hE] at hne;simp at hne;omega
 have later:∀k e',es[k]?=some e'→i<k→a6s E i (0+k)=true→b2v e e':=fun k e' hk hik hE=>by
  rw [vA,a3a (by omega)] at hE
  exact apt hk (by omega) (by rw [hE];simp;omega)
 have hsameE:∀s,find s (fold (a6s E i) 0 es σ0).env=find s (e.app (fold E 0 es σ0)).env:=fun s=>by
  by_cases hd:e.dst=some s
  ·rw [b0d (τ:=fold E 0 es σ0) hi (by rw [vA];exact a4w) hd fun k e' hk hik hE=>(later k e' hk hik hE).dd s hd]
  ·rw [a9g,if_neg hd]
   refine b3k rfl fun k e' hk hne hd'=>?_
   rw [vA] at hne
   by_cases hki:k=i
   ·subst hki;rw [hi] at hk;cases hk;exact hd hd'
   ·rw [a3a hki] at hne;exact hne rfl
 have hsameH:∀n,find n (fold (a6s E i) 0 es σ0).heap=find n (e.app (fold E 0 es σ0)).heap:=fun n=>by
  by_cases hd:n∈e.ids
  ·rw [a92 (τ:=fold E 0 es σ0) hi (by rw [vA];exact a4w) hd fun k e' hk hik hE=>(later k e' hk hik hE).ii n hd]
  ·rw [a2z hd]
   refine a7y rfl fun k e' hk hne hd'=>?_
   rw [vA] at hne
   by_cases hki:k=i
   ·subst hki;rw [hi] at hk;cases hk;exact hd hd'
   ·rw [a3a hki] at hne;exact hne rfl
 have one:∀{g':Gh} {a':Act} {w':World},Rel P c g' (e.app (fold E 0 es σ0)) a' w'→Rel P c g' (fold (a6s E i) 0 es σ0) a' w':=fun hr=>hr.congr hsameE hsameH
 have away:∀{l k:Nat} {x y:Ent},b5e anc es l k x y→k≠i→E l=false→l≠i→E k=true→∀v id d o,y.eff=some ⟨v,[id],[(d,o)]⟩→id∉e.ids∧d∉e.ids:=fun {l k x y} hla hki hEl hli hEk v id d o hy=>by
  have hyid:id∈y.ids∧d∈y.ids:=by simp [Ent.ids,hy,Eff.ids]
  by_cases hlt:i<k
  ·have h0:=apt hla.snd (by omega) (by rw [hEk];simp;omega)
   exact ⟨fun h=>h0.ii _ h hyid.1,fun h=>h0.ii _ h hyid.2⟩
  ·obtain ⟨_,_,v',id',d',o',hy',_,hlone,_⟩:=a6x hla.ok
   rw [hy] at hy';cases hy'
   have hlk:=hla.lt
   have hik:k<i:=by omega
   have e1:(es.drop (l+1))[k - (l+1)]?=some y:=by rw [xJ,show l+1+(k - (l+1))=k from by omega];exact hla.snd
   have e2:(es.drop (l+1))[i - (l+1)]?=some e:=by rw [xJ,show l+1+(i - (l+1))=i from by omega];exact hi
   have no:¬(id∈e.ids∨d∈e.ids):=fun h=>by
    have:=b4a hlone e1 e2 (.inl hyid.1) h
    omega
   exact ⟨fun h=>no (.inl h),fun h=>no (.inr h)⟩
 have keepP:∀{f:Eff} {g':Gh} {w':World},e.eff=some f→a09 g (fold E 0 es σ0).heap w f g' w'→∀l k x y,b5e anc es l k x y→k≠i→a6s E i l=false→a6s E i k=true→∀v id d o,y.eff=some ⟨v,[id],[(d,o)]⟩→∀kk xs t,find id (fold (fun j=>decide (j<k)) 0 es σ0).heap=some (.arr kk xs t) →
   d0l (fold (a6s E i) 0 es σ0).heap g' w' id kk xs d:=fun {f g' w'} hf hs l k x y hla hki hEl hEk v id d o hy kk xs t hfd=>by
  have hli:l≠i:=fun h=>by subst h;rw [a4w] at hEl;cases hEl
  rw [a3a hli] at hEl
  rw [a3a hki] at hEk
  have ids:e.ids=f.ids:=by simp [Ent.ids,hf]
  obtain ⟨h1,h2⟩:=away hla hki hEl hli hEk v id d o hy
  rw [ids] at h1 h2
  refine ((hP l k x y hla hEl hEk v id d o hy kk xs t hfd).step hR.hp hs h1 h2).congr ?_
  rw [hsameH]
  unfold Ent.app
  rw [hf]
  rfl
 have idle:e.eff=none→c09 anc es σ0 (a6s E i) g w:=fun hn l k x y hla hEl hEk v id d o hy kk xs t hfd=>by
  have hli:l≠i:=fun h=>by subst h;rw [a4w] at hEl;cases hEl
  have hki:k≠i:=fun h=>by
   subst h
   have:=hla.snd
   rw [hi] at this;cases this
   rw [hn] at hy;cases hy
  rw [a3a hli] at hEl
  rw [a3a hki] at hEk
  refine (hP l k x y hla hEl hEk v id d o hy kk xs t hfd).congr ?_
  rw [hsameH,a2z (by simp [Ent.ids,hn])]
 have ran:∀gs,Ran P c.H0 m e (fold (fun j=>decide (j<i)) 0 es σ0) gs→o.wp P a w K' Q:=by
  rintro gs ⟨f,k1,k2,k3,k4,k5⟩
  have hvals:m.ins.opds.map (·.ev (fold E 0 es σ0).env)=m.ins.opds.map (·.ev (fold (fun j=>decide (j<i)) 0 es σ0).env):=d3q fun n hn=>henv n (by rw [k3];exact zU _ hn)
  have fin0:∀{g':Gh} {v:Value} {w':World},a09 g (fold E 0 es σ0).heap w f g' w'→a13 c.H0 g g' (fold E 0 es σ0) f→VR g' w' v f.val→c09 anc es σ0 (a6s E i) g' w'→K' (a.put o.dst v) w':=fun {g' v w'} hs hf hv hpin=>by
   refine hK g' _ w' (one ?_) hpin
   have:e.app (fold E 0 es σ0)=(fold E 0 es σ0).app m.dst f:=by unfold Ent.app;rw [k1,hdst]
   rw [this,←hdd]
   exact hR.step hlt hs hf hv
  by_cases hsp:∃n k e',n∈e.touch∧n∈e'.ids∧E k=true∧b5e anc es i k e e'
  · -- a load behind the append that consumes its row
   obtain ⟨n,k,y,hn,hny,hEk,hla⟩:=hsp
   obtain ⟨q,hq1,hq2⟩:=hla.mark
   have hkl:k<ms.length:=by rw [←c1u hevs];exact (zG.1 hla.snd).1
   obtain ⟨happ,ml,hml,hld⟩:=b4g (all:=ms) (l:=i) hlate hq1 (zJ hkl) hq2
   rw [hms] at hml;cases hml
   obtain ⟨_,_,v,id,d,ob',hy,hdt,hlone,_⟩:=a6x hla.ok
   have hyids:y.ids=[id,d]:=by simp [Ent.ids,hy,Eff.ids]
   have hnid:n=id:=by
    rw [hyids] at hny
    rcases wY.1 hny with h|h
    ·exact h
    ·exact absurd (by rw [xF.1 h] at hn;exact hn) hdt
   subst hnid
   have hevk:=c96 (i:=0) (k:=k) hevs (zJ hkl) hla.snd
   rw [vA] at hevk
   obtain ⟨_,hevk⟩:=hevk
   have hrk:∃gs,Ran P c.H0 ms[k] y (fold (fun j=>decide (j<k)) 0 es σ0) gs:=by
    rcases hevk with ⟨_,hr⟩|⟨s,want,b,_,_,_,⟨_,hr⟩|⟨_,hr⟩⟩|⟨s,want,_,_,_,hr⟩
    ·exact ⟨_,hr⟩
    ·exact ⟨_,hr⟩
    ·rw [hy] at hr;cases hr
    ·rw [hy] at hr;cases hr
   obtain ⟨gs',f',r1,r2,r3,r4,r5⟩:=hrk
   rw [hy] at r1;cases r1
   cases hik:ms[k].ins<;>rw [hik] at happ<;>try (cases happ;done)
   rename_i ka by' xa ya tya
   rw [hik] at r2
   obtain ⟨_,lo,nn,xs,t0,hxa,hob⟩:=d5n r2
   have hob':find n (fold (fun j=>decide (j<k)) 0 es σ0).heap=some (.arr ka xs t0):=hob
   cases hil:m.ins<;>rw [hil] at hld<;>try (cases hld;done)
   rename_i nl al
   rw [hil] at k2 k4 hins hvals
   have hf0:f.ids=[]:=by
    obtain ⟨r,hr1,hr2⟩:=d50 (K:=fun r=>evl r=f) (L:=fun r=>evl r=f) k2
    have:evl r=f:=hr1.elim id id
    rw [←this];rfl
   have heids:e.ids=[]:=by simp [Ent.ids,k1,hf0]
   have hsame:find n (fold (fun j=>decide (j<i)) 0 es σ0).heap=find n (fold (fun j=>decide (j<k)) 0 es σ0).heap:=a7y rfl fun q e' hqe hne hd=>by
    rw [vA] at hne
    have hik':=hla.lt
    have hq1:i≤q∧q<k:=by
     by_cases h1:q<i<;>by_cases h2:q<k<;>simp [h1,h2] at hne<;>omega
    by_cases hqi:q=i
    ·subst hqi;rw [hi] at hqe;cases hqe;rw [heids] at hd;cases hd
    ·have e1:(es.drop (i+1))[k - (i+1)]?=some y:=by rw [xJ,show i+1+(k - (i+1))=k from by omega];exact hla.snd
     have e2:(es.drop (i+1))[q - (i+1)]?=some e':=by rw [xJ,show i+1+(q - (i+1))=q from by omega];exact hqe
     have:=b4a hlone e1 e2 (.inl (by rw [hyids];exact xG)) (.inl hd)
     omega
   have hobi:c52 (fold (fun j=>decide (j<i)) 0 es σ0).heap n=some (.arr ka xs t0):=hsame.trans hob'
   have hvals':al.ev (fold E 0 es σ0).env=al.ev (fold (fun j=>decide (j<i)) 0 es σ0).env:=by simpa [a0a.opds] using hvals
   rw [k4] at hn
   simp only [a0a.opds,wZ,vF,a0a.touch] at hn k2
   have k2:sLd nl (al.ev (fold (fun j=>decide (j<i)) 0 es σ0).env) (c52 (fold (fun j=>decide (j<i)) 0 es σ0).heap) (fun r=>evl r=f) (fun r=>evl r=f):=k2
   cases hal:al.ev (fold (fun j=>decide (j<i)) 0 es σ0).env<;>rw [hal] at hn k2<;>try (exact (List.not_mem_nil hn).elim)
   case ptr id0 off =>
    simp only [vid,xF] at hn;subst hn
    simp only [sLd,hobi] at k2
   case osl id0 _ _ _=>exact k2.elim
   case omap id0=>exact k2.elim
   case bptr id0=>exact k2.elim
   case optr id0 k0 i0 off =>
    simp only [vid,xF] at hn;subst hn
    simp only [sLd,hobi] at k2
    by_cases hkk:Nat.beq k0 ka=true
    case neg=>simp [hkk] at k2
    simp only [hkk,vO] at k2
    have:=zR hkk;subst this
    obtain ⟨q,hq,hpt⟩:=k2
    have pin:=hP i k e y hla hp.out hEk v n d ob' hy k0 xs t0 hob'
    refine g0x hins hR (by rw [hvals'];exact hal) pin hq (K:=fun u=>u=f) (L:=fun u=>u=f) hpt fun eff he g' v' w' hs hf hv=>?_
    have he':eff=f:=he.elim id id
    subst he'
    refine fin0 hs hf hv fun l k' x' y' hla' hEl hEk'=>?_
    by_cases hki:k'=i
    ·exfalso
     subst hki
     have:=hla'.snd
     rw [hi] at this;cases this
     obtain ⟨_,_,_,_,_,_,hy2,_,_⟩:=a6x hla'.ok
     have:e.ids≠[]:=by simp [Ent.ids,hy2,Eff.ids]
     exact this heids
    ·exact keepP k1 hs l k' x' y' hla' hki hEl hEk'
  ·have hheap:∀n∈e.touch,find n (fold E 0 es σ0).heap=find n (fold (fun j=>decide (j<i)) 0 es σ0).heap:=fun n hn=>(hheap n hn).elim id fun ⟨k,e',h1,h2,h3⟩=>absurd ⟨n,k,e',hn,h1,h2,h3⟩ hsp
   rw [←hvals] at k2
   have k2':=d10 (ob':=c52 (fold E 0 es σ0).heap) (fun id hid=>(by
    have:=hheap id (by rw [k4,←hvals];exact hid)
    unfold c52;exact this.symm)) k2
   have hcl:∀n∈m.ins.creates m.d,Clean c (fold E 0 es σ0) n:=fun n hn=>by
    rw [←k5] at hn
    exact b6q (b2q hchk hi n hn) fun k e' hk hE f' hf'=>by
     rw [vA] at hE
     exact c4y hanc hchk hl hp hi hk hE n hn f' hf'
   by_cases happ:m.ins.isApp=true
   · -- an append: its row can still be read
    cases hia:m.ins<;>rw [hia] at happ<;>try (cases happ;done)
    rename_i ka by' xa ya tya
    rw [hia] at hins k2' hcl k4 hvals
    refine d4y (K:=fun u=>u=f) (L:=fun u=>u=f) (d:=m.d) hins hR (fun id o h=>h) (hcl m.d (by simp [a0a.creates])) k2' fun eff he g' v w' hs hf hv hpa=>?_
    have he':eff=f:=he
    subst he'
    refine fin0 hs hf hv fun l k x y hla hEl hEk v0 id d o0 hy kk xs t hfd=>?_
    by_cases hki:k=i
    ·subst hki
     have:=hla.snd
     rw [hi] at this;cases this
     rw [hy] at k1;cases k1
     have k2'':c2r ka by' m.d tya (xa.ev (fold E 0 es σ0).env) (ya.ev (fold E 0 es σ0).env) (c52 (fold E 0 es σ0).heap) (fun u=>u=⟨v0,[id],[(d,o0)]⟩):=k2'
     obtain ⟨hd,lo,n,xs',t0,hxa,hob⟩:=d5n k2''
     subst hd
     have hid:id∈e.touch:=by
      rw [k4,←hvals]
      simp [a0a.opds,a0a.touch,hxa,vid]
     have h8:=hheap id hid
     have h9:find id (fold E 0 es σ0).heap=_:=hob
     rw [h8,hfd] at h9
     cases h9
     have h7:=hpa id ka lo n ka xs t hxa hob
     have hne:id≠m.d:=by
      obtain ⟨_,_,_,_,_,_,hy2,_,_,hne⟩:=a6x hla.ok
      rw [hy] at hy2;cases hy2;exact hne
     refine h7.w (hs.agree id fun o' ho'=>?_) ?_
     ·simp at ho';exact hne ho'.1
     ·rw [hsameH]
      unfold Ent.app
      rw [hy]
      exact ⟨o0,by simp [St.app,Eff.heap,puts,a10]⟩
    ·exact keepP k1 hs l k x y hla hki hEl hEk v0 id d o0 hy kk xs t hfd
   ·refine b94 m.ins (d:=m.d) hins hR (fun id o h=>h) hcl k2' fun eff he g' v w' hs hf hv=>?_
    have he':eff=f:=he.elim id id
    subst he'
    refine fin0 hs hf hv fun l k x y hla hEl hEk=>?_
    by_cases hki:k=i
    ·exfalso
     subst hki
     obtain ⟨q,hq1,hq2⟩:=hla.mark
     exact happ (b4g (all:=ms) (l:=l) hlate hq1 hms hq2).1
    ·exact keepP k1 hs l k x y hla hki hEl hEk
 simp only [wpOp,ho]
 rcases hev with ⟨hg,hr⟩|⟨s,want,b,hg,hb,hsu,hr⟩|⟨s,want,hg,hb,hsu,hr⟩
 ·rw [hg] at h3
  simp only [b1r h3,if_true]
  exact .inl (ran _ hr)
 ·rw [hg] at h3
  have hb':get s (fold E 0 es σ0).env=.bool b:=by rw [a2f,henv s hsu,←a2f];exact hb
  rw [a7x h3 hR hb']
  rcases hr with ⟨rfl,hr⟩|⟨hbn,hr⟩
  ·have hw:d0k b b=true:=by cases b<;>rfl
   simp only [hw,if_true]
   exact .inl (ran _ hr)
  ·have hw:d0k b want=false:=by rw [hbn];cases want<;>rfl
   simp only [hw,xL,if_false]
   refine hK g _ w (one ?_) (idle hr)
   have:e.app (fold E 0 es σ0)=⟨a7c m.dst (fold E 0 es σ0).env,(fold E 0 es σ0).heap⟩:=by unfold Ent.app;rw [hr,hdst]
   rw [this,←hdd]
   exact hR.undef' hlt
 ·rw [hg] at h3
  have hb':get s (fold E 0 es σ0).env=.tup []:=by rw [a2f,henv s hsu,←a2f];exact hb
  rw [b4o h3 hR hb']
  simp only [xL,if_false]
  refine hK g _ w (one ?_) (idle hr)
  have:e.app (fold E 0 es σ0)=⟨a7c m.dst (fold E 0 es σ0).env,(fold E 0 es σ0).heap⟩:=by unfold Ent.app;rw [hr,hdst]
  rw [this,←hdd]
  exact hR.undef' hlt
theorem d07 (hlate:b07 ms ms anc=true) (hok:a1p P c.nt ops ms ops.toList=true) (haft:b39 aft ops.toList=true) (hanc:b0s anc 0 aft anc=true) (hchk:a3h c.H0 σ0 0 anc es=true) (hevs:Evs P c.H0 ms es σ0)
  (hK:∀g a w,Rel P c g (b5r es σ0) a w→Q .normal a w):∀(fuel:Nat) (E:Nat→Bool) (listed:Array Bool) (g:Gh) (a:Act) (w:World),listed.size=ops.size→(∀i,i<ops.size→listed.getD i true=E i∧listed.getD i false=E i) →
   (∀k a,aft[k]?=some a→E k=true→∀x∈a,E x=true)→((List.range ops.size).filter fun i=>!E i).length≤fuel→Rel P c g (fold E 0 es σ0) a w→c09 anc es σ0 E g w→wpAny P .any ops Q fuel listed a w:=by
 have hml:ms.length=ops.size:=by rw [b6i hok,xD]
 have hel:es.length=ops.size:=by rw [c1u hevs,hml]
 have hat:∀{i:Nat} {o:Oper},ops[i]?=some o→∃b,aft[i]?=some b∧b=(o.after.toList.filter (Region.binds .any)).map (·.on):=fun ho=>c42 haft (by rw [zW];exact ho)
 have hal:aft.length=ops.size:=by
  have:∀{aft:List (List Nat)} {os:List Oper},b39 aft os=true→aft.length=os.length:=by
   intro aft
   induction aft with
   | nil=>intro os h;cases os with|nil=>rfl|cons _ _=>cases h
   | cons a r ih =>
    intro os h
    cases os with
    | nil=>cases h
    | cons o s=>simp only [b39,wE] at h;simp only [wA,ih h.2]
  rw [this haft,xD]
 have done:∀(E:Nat→Bool) (listed:Array Bool),(∀i,i<ops.size→listed.getD i true=E i∧listed.getD i false=E i)→Region.ready .any ops listed=[]→∀i,i<ops.size→E i=true:=by
  intro E listed hls hr i
  induction i using Nat.strongRecOn with
  | _ i ih =>
   intro hi
   cases hE:E i with
   | true=>rfl
   | false =>
    exfalso
    have ho:ops[i]?=some ops[i]:=zI hi
    have:i∈Region.ready .any ops listed:=by
     rw [mem_ready]
     refine ⟨by rw [(hls i hi).1];exact hE,ops[i],ho,fun ed hed hb=>?_⟩
     obtain ⟨b,hb1,hb2⟩:=hat ho
     obtain ⟨_,_,hbel,_⟩:=a7e hanc hb1
     have hmem:ed.on∈b:=by rw [hb2];exact vE.2 ⟨ed,wK.2 ⟨by simpa using hed,hb⟩,rfl⟩
     have hlt:=b0p hbel _ hmem
     rw [vA] at hlt
     rw [(hls ed.on (by omega)).2]
     exact ih ed.on hlt (by omega)
    rw [hr] at this;cases this
 have fin:∀(E:Nat→Bool) (listed:Array Bool) g a w,(∀i,i<ops.size→listed.getD i true=E i∧listed.getD i false=E i)→Rel P c g (fold E 0 es σ0) a w→Region.ready .any ops listed=[]→Q .normal a w:=fun E listed g a w hls hR hr=>by
  have hall:=done E listed hls hr
  rw [c3l fun k hk=>by rw [vA];exact hall k (by omega)] at hR
  exact hK g a w hR
 intro fuel
 induction fuel with
 | zero =>
  intro E listed g a w hsz hls hdown hcard hR hP
  have hr:Region.ready .any ops listed=[]:=by
   cases hrr:Region.ready .any ops listed with
   | nil=>rfl
   | cons i r =>
    exfalso
    have hmem:i∈Region.ready .any ops listed:=by rw [hrr];exact xG
    obtain ⟨h1,o,ho,_⟩:=mem_ready.1 hmem
    have hi:=(zF.1 ho).1
    rw [(hls i hi).1] at h1
    have:i∈(List.range ops.size).filter fun i=>!E i:=wK.2 ⟨List.mem_range.2 hi,by simp [h1]⟩
    rw [zB (Nat.le_zero.1 hcard)] at this
    cases this
  exact ⟨hr,fin E listed g a w hls hR hr⟩
 | succ fuel ih =>
  intro E listed g a w hsz hls hdown hcard hR hP
  refine ⟨fun hr=>fin E listed g a w hls hR hr,fun i hmem=>?_⟩
  obtain ⟨h1,o,ho,hedges⟩:=mem_ready.1 hmem
  have hi:=(zF.1 ho).1
  rw [(hls i hi).1] at h1
  obtain ⟨m,hms,hmok⟩:=b8u hok (by rw [zW];exact ho)
  have hie:es[i]?=some es[i]:=zJ (by omega)
  obtain ⟨b,hb1,hb2⟩:=hat ho
  obtain ⟨_,_,hbel,_⟩:=a7e hanc hb1
  have hbE:∀x∈b,E x=true:=fun x hx=>by
   have hlt:=b0p hbel _ hx
   rw [vA] at hlt
   rw [hb2] at hx
   obtain ⟨ed,hed,rfl⟩:=vE.1 hx
   obtain ⟨hed1,hed2⟩:=wK.1 hed
   rw [←(hls ed.on (by omega)).2]
   exact hedges ed (by simpa using hed1) hed2
  have hp:Part aft E i:=⟨hdown,h1,fun a' ha'=>by rw [hb1] at ha';cases ha';exact hbE⟩
  have hev:=c96 (i:=0) (k:=i) hevs hms hie
  rw [vA] at hev
  refine d0z hlate hevs hms hanc hchk (by omega) hp ho hmok hie hev hR hP fun g' a' w' hR' hP'=>?_
  refine ih (a6s E i) _ g' a' w' (by simpa using hsz) (fun k hk=>?_) (fun k a' ha' hE x hx=>?_) ?_ hR' hP'
  ·by_cases hki:k=i
   ·subst hki
    rw [a4w]
    have:k<listed.size:=by omega
    simp [this]
   ·rw [a3a hki,getD_set_ne true (Ne.symm hki),getD_set_ne false (Ne.symm hki)]
    exact hls k hk
  ·by_cases hki:k=i
   ·subst hki
    rw [hb1] at ha';cases ha'
    have hne:x≠k:=fun h=>by have:=hbE x hx;rw [h,h1] at this;cases this
    rw [a3a hne];exact hbE x hx
   ·rw [a3a hki] at hE
    have:=hdown k a' ha' hE x hx
    by_cases hxi:x=i
    ·rw [hxi];exact a4w
    ·rw [a3a hxi];exact this
  ·have hlt:((List.range ops.size).filter fun k=>!a6s E i k).length<((List.range ops.size).filter fun k=>!E k).length:=by
    have hsub:((List.range ops.size).filter fun k=>!a6s E i k)=(((List.range ops.size).filter fun k=>!E k).filter fun k=>!Nat.beq k i):=by
     rw [List.filter_filter]
     refine List.filter_congr fun k _=>?_
     unfold a6s
     cases Nat.beq k i<;>cases E k<;>rfl
    rw [hsub]
    refine List.length_filter_lt_length_iff_exists.2 ⟨i,wK.2 ⟨List.mem_range.2 hi,by simp [h1]⟩,by simp⟩
   omega
theorem c1c {K:St→Prop} {g:Gh} {a:Act} {w:World} (hmix:P.follows .mixedOrders=true) (hK:∀σ' g' a' w',K σ'→Rel P c g' σ' a' w'→Q .normal a' w') (hok:a1p P c.nt ops ms ops.toList=true) (haft:b39 aft ops.toList=true)
  (hanc:b0s anc 0 aft anc=true) (hlate:b07 ms ms anc=true) (hR:Rel P c g σ0 a w) (h:c6y P c.H0 ms [] σ0 fun log σ'=>a3h c.H0 σ0 0 anc log.reverse=true∧K σ') (t:Nat):wpOps P ops Q (Region.schedule (P.follows .mixedOrders) ops t) a { w with drawn:=w.drawn+1 }:=by
 obtain ⟨es,hevs,hchk,hk⟩:=a9v h
 rw [wQ,List.reverse_reverse] at hchk
 simp only [Region.schedule,hmix,Bool.true_or,if_true]
 refine wpAny_sound ops.size t _ a _ (d07 hlate hok haft hanc hchk hevs (fun g a w hr=>hK _ g a w hk hr) ops.size (fun _=>false) _ g a _ (by simp) (fun i hi=>by simp [hi]) (fun _ _ _ h=>by cases h) ?_ ?_ (fun _ _ _ _ _ _ h=>by cases h))
 ·exact vB (List.length_filter_le _ _) (by simp)
 ·rw [b4r (fun _=>rfl)]
  exact hR.drew
end
inductive a4x where
 | gc (keep:List Nat)
 | acc (s id k:Nat)
 | shut (id:Nat)
 | shq (id:Nat)
 | fact (s:Nat)
 | ren (a b:Nat)
 | renq (a b:Nat)
 | ownC (id off id2 k:Nat) (ty:Option TypeId)
 | fz (s:Nat)
 | trim (s:Nat)
 | fzc (s:Nat)
 | bld (id:Nat)
 | adq (s q:Nat)
 | toA (s q:Nat)
 | ofA (s q:Nat)
 | accA (s off id k:Nat)
def V.isB (id:Nat):V→Bool
 | .nilp=>true
 | .ptr j off=>Nat.beq j id&&Nat.beq off 0
 | .bptr j=>Nat.beq j id
 | _=>false
mutual
def V.fact:V→Prop
 | .int k n=>rng k n
 | .str s=>s.length≤9223372036854775807
 | .sl xs=>xs.length≤9223372036854775807∧b7x xs
 | .osl _ _ _ n=>n≤9223372036854775807
 | .agg cs=>V.factL cs
 | .tup cs=>V.factL cs
 | .eptr x _=>x.fact
 | _=>True
def V.factL:List V→Prop
 | []=>True
 | x::r=>x.fact∧V.factL r
def b7x:List V→Prop
 | []=>True
 | x::r=>x.fact∧b7x r
end
theorem b4u:∀{xs:List V},b7x xs↔∀x∈xs,x.fact
 | []=>by simp [b7x]
 | x::r=>by simp [b7x,b4u (xs:=r)]
theorem a6m:∀{xs:List V},V.factL xs↔∀x∈xs,x.fact
 | []=>by simp [V.factL]
 | x::r=>by simp [V.factL,a6m (xs:=r)]
theorem a7v {n:Nat} (h:n≤maxLen):n≤9223372036854775807:=vB h (by unfold maxLen;decide)
theorem b1v {x:V} (h:∀(j:Nat) (c:V),x.cells[j]?=some c→c.fact):x.fact:=by
 cases x with
 | agg cs =>
  simp only [V.fact]
  refine a6m.2 fun c hc=>?_
  obtain ⟨j,hj⟩:=zT.1 hc
  exact h j c hj
 | _=>exact h 0 _ rfl
theorem Rd.fact {S:Nat→Prop} {w:World} {v:Value} {x:V} (h:Rd S w v x):x.fact:=by
 induction h with
 | int k n h=>exact a1q.1 h
 | str s h =>
  simp only [V.fact]
  have:s.data.toList.length=s.size:=by rw [xD];rfl
  rw [this];exact a7v h
 | agg vs cs hl hr ih =>
  simp only [V.fact]
  refine a6m.2 fun c hc=>?_
  obtain ⟨j,hj⟩:=zT.1 hc
  exact ih j c hj
 | nilsl=>simp [V.fact,b7x]
 | slz a cap=>simp [V.fact,b7x]
 | sl g o len cap k cur e fz xs hS hg hl hm hc hb hk hr ih =>
  simp only [V.fact]
  refine ⟨by rw [hl];exact a7v hm,b4u.2 fun x hx=>?_⟩
  obtain ⟨i,hi⟩:=zT.1 hx
  exact b1v fun j c hj=>ih i j x c hi hj
 | _=>simp [V.fact]
theorem VR.fact {g:Gh} {w:World} {v:Value} {x:V} (h:VR g w v x):x.fact:=by
 induction h with
 | rd h=>exact h.fact
 | eptr b o off cur e fz x hS hg hb hr=>simp only [V.fact];exact b1v fun j c hc=>(hr j c hc).fact
 | oslnil=>simp [V.fact]
 | osl id k lo len o c h ho hc hl hm=>simp only [V.fact];exact a7v (vB hl hm)
 | agg vs cs hl hr ih =>
  simp only [V.fact]
  refine a6m.2 fun c hc=>?_
  obtain ⟨j,hj⟩:=zT.1 hc
  exact ih j c hj
 | tup vs cs hl hr ih =>
  simp only [V.fact]
  refine a6m.2 fun c hc=>?_
  obtain ⟨j,hj⟩:=zT.1 hc
  exact ih j c hj
 | _=>simp [V.fact]
def c3t:List (Nat×V)→Prop
 | []=>True
 | (_,x)::r=>x.fact∧c3t r
def a0i.fact:a0i→Prop
 | .arr _ xs _=>xs.length≤9223372036854775807∧b7x xs
 | .cells cs _=>V.factL cs
 | .map _ es=>∀e∈es,e.1.fact∧e.2.fact
 | .iter es _=>∀e∈es,e.1.fact∧e.2.fact
 | .mark=>True
 | .nmap _ _ _ es=>∀e∈es,e.1.fact∧e.2.fact
def b0i:Heap→Prop
 | []=>True
 | (_,x)::r=>x.fact∧b0i r
theorem OR.fact {g:Gh} {w:World} {id:Nat} {o:a0i} (h:OR g w id o):o.fact:=by
 cases o with
 | cells cs ty =>
  obtain ⟨_,cur,e,fz,_,_,_,h4⟩:=h
  refine a6m.2 fun c hc=>?_
  obtain ⟨j,hj⟩:=zT.1 hc
  exact (h4 j c hj).fact
 | arr k xs ty =>
  rcases h with ⟨_,rfl⟩|⟨_,_,⟨cur,e,fz,_,_,_,h4⟩,h5,h6,_⟩
  ·simp [a0i.fact,b7x]
  ·refine ⟨a7v (by omega),b4u.2 fun x hx=>?_⟩
   obtain ⟨i,hi⟩:=zT.1 hx
   exact b1v fun j c hj=>(h4 i j x c hi hj).fact
 | map kd es =>
  obtain ⟨_,ents,clock,_,he,_⟩:=h
  intro kv hm
  obtain ⟨i,hi⟩:=zT.1 hm
  have hlt:i<ents.toList.length:=by
   rw [he.len];exact (zG.1 hi).1
  obtain ⟨h5,h6⟩:=he.rd i ents.toList[i] kv (zJ hlt) hi
  exact ⟨h5.fact,h6.fact⟩
 | mark=>trivial
 | nmap z k kd es =>
  obtain ⟨_,ents,clock,_,he,_⟩:=h
  intro kv hm
  obtain ⟨i,hi⟩:=zT.1 hm
  have hlt:i<ents.toList.length:=by
   rw [he.len];exact (zG.1 hi).1
  obtain ⟨h5,h6⟩:=he.rd i ents.toList[i] kv (zJ hlt) hi
  exact ⟨h5.fact,h6.fact⟩
 | iter rem cur =>
  obtain ⟨_,h⟩:=h
  rcases h with ⟨x,y,z,_,rfl,_⟩|⟨m,clock,seen,ents,_,_,_,_,_,hl,hr,_⟩
  ·intro kv hm;cases hm
  ·intro kv hm
   obtain ⟨i,hi⟩:=zT.1 hm
   have hlt:i<(ents.toList.filter fun e=>!seen.contains e.born).length:=by
    rw [hl];exact (zG.1 hi).1
   obtain ⟨h5,h6⟩:=hr i _ kv (zJ hlt) hi
   exact ⟨h5.fact,h6.fact⟩
mutual
def V.ren (a b:Nat):V→V
 | .ptr id off=>.ptr (bif Nat.beq id a then b else id) off
 | .osl id k lo n=>.osl (bif Nat.beq id a then b else id) k lo n
 | .optr id k i off=>.optr (bif Nat.beq id a then b else id) k i off
 | .omap id=>.omap (bif Nat.beq id a then b else id)
 | .bptr id=>.bptr (bif Nat.beq id a then b else id)
 | .nsl z k xs=>.nsl (bif Nat.beq z a then b else z) k xs
 | .nsmap z k kd es=>.nsmap (bif Nat.beq z a then b else z) k kd es
 | .at_ id x=>.at_ (bif Nat.beq id a then b else id) x
 | .agg cs=>.agg (V.renL a b cs)
 | .tup cs=>.tup (V.renL a b cs)
 | .fn f cs=>.fn f (V.renL a b cs)
 | x=>x
def V.renL (a b:Nat):List V→List V
 | []=>[]
 | x::r=>x.ren a b::V.renL a b r
end
def d0h (a b:Nat):List (Nat×V)→List (Nat×V)
 | []=>[]
 | (n,x)::r=>(n,x.ren a b)::d0h a b r
def a0i.ren (a b:Nat):a0i→a0i
 | .cells cs t=>.cells (V.renL a b cs) t
 | .nmap z k kd es=>.nmap (bif Nat.beq z a then b else z) k kd es
 | o=>o
def c7g (a b:Nat):Heap→Heap
 | []=>[]
 | (n,o)::r=>(bif Nat.beq n a then b else n,o.ren a b)::c7g a b r
mutual
def V.shut (n:Nat) (xs:List V):V→V
 | .osl id k lo len=>bif Nat.beq n id then .sl ((xs.drop lo).take len) else .osl id k lo len
 | .agg cs=>.agg (V.sealL n xs cs)
 | .tup cs=>.tup (V.sealL n xs cs)
 | .fn f cs=>.fn f (V.sealL n xs cs)
 | .ptr id off=>bif Nat.beq n id then .any else .ptr id off
 | .optr id k i off=>bif Nat.beq n id then .any else .optr id k i off
 | .omap id=>bif Nat.beq n id then .any else .omap id
 | .bptr id=>bif Nat.beq n id then .any else .bptr id
 | x=>x
def V.sealL (n:Nat) (xs:List V):List V→List V
 | []=>[]
 | x::r=>x.shut n xs::V.sealL n xs r
end
mutual
def V.sealOK (n k m:Nat):V→Prop
 | .osl id k' lo len=>bif Nat.beq n id then (bif Nat.beq k k' then lo+len≤m else False) else True
 | .agg cs=>V.sealOKs n k m cs
 | .tup cs=>V.sealOKs n k m cs
 | .fn _ cs=>V.sealOKs n k m cs
 | _=>True
def V.sealOKs (n k m:Nat):List V→Prop
 | []=>True
 | x::r=>x.sealOK n k m∧V.sealOKs n k m r
end
def b8j (n:Nat) (xs:List V):List (Nat×V)→List (Nat×V)
 | []=>[]
 | (m,x)::r=>(m,x.shut n xs)::b8j n xs r
def a7t (n k m:Nat):List (Nat×V)→Prop
 | []=>True
 | (_,x)::r=>x.sealOK n k m∧a7t n k m r
def a0i.shut (n:Nat) (xs:List V):a0i→a0i
 | .cells cs t=>.cells (V.sealL n xs cs) t
 | o=>o
def a0i.sealOK (n k m:Nat):a0i→Prop
 | .cells cs _=>V.sealOKs n k m cs
 | _=>True
def b79 (n:Nat) (xs:List V):Heap→Heap
 | []=>[]
 | (m,o)::r=>bif Nat.beq n m then b79 n xs r else (m,o.shut n xs)::b79 n xs r
def a7s (n k m:Nat):Heap→Prop
 | []=>True
 | (_,x)::r=>x.sealOK n k m∧a7s n k m r
mutual
def V.shm (n:Nat) (y:V):V→V
 | .omap id=>bif Nat.beq n id then y else .omap id
 | .agg cs=>.agg (V.shmL n y cs)
 | .tup cs=>.tup (V.shmL n y cs)
 | .fn f cs=>.fn f (V.shmL n y cs)
 | x=>x
def V.shmL (n:Nat) (y:V):List V→List V
 | []=>[]
 | x::r=>V.shm n y x::V.shmL n y r
end
def c6u (n:Nat) (y:V):List (Nat×V)→List (Nat×V)
 | []=>[]
 | (m,x)::r=>(m,V.shm n y x)::c6u n y r
def a0i.shm (n:Nat) (y:V):a0i→a0i
 | .cells cs t=>.cells (V.shmL n y cs) t
 | o=>o
def c65 (n:Nat) (y:V):Heap→Heap
 | []=>[]
 | (m,o)::r=>bif Nat.beq n m then c65 n y r else (m,o.shm n y)::c65 n y r
def d0j (keep:List Nat):List (Nat×V)→List (Nat×V)
 | []=>[]
 | (n,x)::r=>bif mem n keep then (n,x)::d0j keep r else d0j keep r
def a0t (n:Nat):Heap→Bool
 | []=>false
 | (m,_)::r=>Nat.beq n m||a0t n r
mutual
def V.unnil:V→V
 | .nils=>.sl []
 | .agg cs=>.agg (V.unnilL cs)
 | x=>x
def V.unnilL:List V→List V
 | []=>[]
 | x::r=>x.unnil::V.unnilL r
end
mutual
def V.oids:V→List Nat
 | .osl id _ _ _=>[id]
 | .omap id=>[id]
 | .agg cs=>V.oidsL cs
 | .tup cs=>V.oidsL cs
 | _=>[]
def V.oidsL:List V→List Nat
 | []=>[]
 | x::r=>x.oids++V.oidsL r
end
def f6l (id:Nat) (σ:St) (K:St→Prop):Prop :=
 match find id σ.heap with
 | some (.arr k xs _)=>a7t id k xs.length σ.env∧a7s id k xs.length σ.heap∧K ⟨b8j id xs σ.env,b79 id xs σ.heap⟩
 | some (.map kd es)=>K ⟨c6u id (.smap kd es) σ.env,c65 id (.smap kd es) σ.heap⟩
 | some (.nmap z k kd es)=>K ⟨c6u id (.nsmap z k kd es) σ.env,c65 id (.nsmap z k kd es) σ.heap⟩
 | none=>K σ
 | _=>False
def d13:List Nat→St→(St→Prop)→Prop
 | [],σ,K=>K σ
 | id::r,σ,K=>f6l id σ fun σ'=>d13 r σ' K
mutual
def V.tr (n lo len:Nat):V→V
 | .osl id k l m=>bif Nat.beq id n then (bif Nat.beq l lo&&Nat.beq m len then .osl id k 0 m else .any) else .osl id k l m
 | .ptr id off=>bif Nat.beq id n then .any else .ptr id off
 | .optr id k i off=>bif Nat.beq id n then .any else .optr id k i off
 | .omap id=>bif Nat.beq id n then .any else .omap id
 | .bptr id=>bif Nat.beq id n then .any else .bptr id
 | .nsl z k xs=>bif Nat.beq z n then .any else .nsl z k xs
 | .nsmap z k kd es=>bif Nat.beq z n then .any else .nsmap z k kd es
 | .agg cs=>.agg (V.trL n lo len cs)
 | .tup cs=>.tup (V.trL n lo len cs)
 | .fn f cs=>.fn f (V.trL n lo len cs)
 | x=>x
def V.trL (n lo len:Nat):List V→List V
 | []=>[]
 | x::r=>x.tr n lo len::V.trL n lo len r
end
def trE (n lo len:Nat):List (Nat×V)→List (Nat×V)
 | []=>[]
 | (m,x)::r=>(m,x.tr n lo len)::trE n lo len r
def a0i.tr (n lo len:Nat):a0i→a0i
 | .cells cs t=>.cells (V.trL n lo len cs) t
 | .nmap z k kd es=>bif Nat.beq z n then .map kd es else .nmap z k kd es
 | o=>o
def trH (n lo len:Nat):Heap→Heap
 | []=>[]
 | (m,o)::r=>(m,o.tr n lo len)::trH n lo len r
def V.isNils:V→Bool
 | .nils=>true
 | _=>false
def a0y (H0:Heap) (n:a4x) (σ:St) (K:St→Prop):Prop :=
 match n with
 | .adq s q=>match find s σ.env,find q σ.env with
  | some (.ptr id _),some _=>∀b,K ⟨put q (.at_ id b) σ.env,σ.heap⟩
  | _,_=>False
 | .toA s q=>match find s σ.env,find q σ.env with
  | some (.ptr id off),some (.at_ id' b)=>bif Nat.beq id id' then K ⟨put s (.adr b off) σ.env,σ.heap⟩ else False
  | _,_=>False
 | .ofA s q=>match find s σ.env,find q σ.env with
  | some (.adr b off),some (.at_ id b')=>b=b'∧K ⟨put s (.ptr id off) σ.env,σ.heap⟩
  | _,_=>False
 | .ownC id off id2 k ty=>match find id σ.heap with
  | some (.cells cs t)=>match cs[off]? with
   | some .nils=>bif a1k H0 σ [id2]&&!a0t id2 σ.heap&&!Nat.beq id id2 then K ⟨σ.env,put id (.cells (cs.set off (.osl id2 k 0 0)) t) (put id2 (.arr k [] ty) σ.heap)⟩ else False
   | some (.osl j _ _ _)=>bif Nat.beq j id2 then K σ else bif a1k H0 σ [id2]&&!a0t id2 σ.heap&&a0t j σ.heap then K ⟨d0h j id2 σ.env,c7g j id2 σ.heap⟩ else False
   | _=>False
  | _=>False
 | .fz s=>match find s σ.env with
  | some x=>d13 x.oids σ fun σ'=>(match find s σ'.env with|some y=>K ⟨put s y.unnil σ'.env,σ'.heap⟩|none=>False)
  | none=>K σ
 | .fzc s=>match find s σ.env with
  | some (.ptr id _)=>match find id σ.heap with
   | some (.cells cs _)=>d13 (V.oidsL cs) σ fun σ'=>(match find id σ'.heap with|some (.cells ds t)=>K ⟨σ'.env,put id (.cells (V.unnilL ds) t) σ'.heap⟩|_=>False)
   | _=>False
  | _=>False
 | .bld id=>match find id σ.heap with
  | some (.cells (x::cs) t)=>bif x.isB id then K ⟨σ.env,put id (.cells (.bptr id::cs) t) σ.heap⟩ else False
  | _=>False
 | .trim s=>match find s σ.env with
  | some (.osl id k lo n)=>match find id σ.heap,find id H0 with
   | some (.arr k' xs t),none=>bif Nat.beq k k' then K ⟨trE id lo n σ.env,put id (.arr k ((xs.drop lo).take n) t) (trH id lo n σ.heap)⟩ else False
   | _,_=>False
  | _=>K σ
 | .gc keep=>K ⟨d0j keep σ.env,σ.heap⟩
 | .fact s=>(get s σ.env).fact→K σ
 | .ren j id=>bif a1k H0 σ [id]&&!a0t id σ.heap&&!Nat.beq j id then K ⟨d0h j id σ.env,c7g j id σ.heap⟩ else False
 | .renq j id=>bif a0t j σ.heap then (bif a1k H0 σ [id]&&!a0t id σ.heap&&!Nat.beq j id then K ⟨d0h j id σ.env,c7g j id σ.heap⟩ else False) else K σ
 | .shq id=>match find id σ.heap with
  | some (.arr k xs _)=>a7t id k xs.length σ.env∧a7s id k xs.length σ.heap∧K ⟨b8j id xs σ.env,b79 id xs σ.heap⟩
  | some (.map kd es)=>K ⟨c6u id (.smap kd es) σ.env,c65 id (.smap kd es) σ.heap⟩
  | some (.nmap z k kd es)=>K ⟨c6u id (.nsmap z k kd es) σ.env,c65 id (.nsmap z k kd es) σ.heap⟩
  | none=>K σ
  | _=>False
 | .shut id=>match find id σ.heap with
  | some (.arr k xs _)=>a7t id k xs.length σ.env∧a7s id k xs.length σ.heap∧K ⟨b8j id xs σ.env,b79 id xs σ.heap⟩
  | some (.map kd es)=>K ⟨c6u id (.smap kd es) σ.env,c65 id (.smap kd es) σ.heap⟩
  | some (.nmap z k kd es)=>K ⟨c6u id (.nsmap z k kd es) σ.env,c65 id (.nsmap z k kd es) σ.heap⟩
  | _=>False
 | .accA s off id k=>match find s σ.env with
  | some (.agg cs)=>match cs[off]? with
   | some .nils=>bif a1k H0 σ [id]&&!a0t id σ.heap then K ⟨put s (.agg (cs.set off (.osl id k 0 0))) σ.env,put id (.arr k []) σ.heap⟩ else False
   | some (.osl j _ _ _)=>bif Nat.beq j id then K σ else bif a1k H0 σ [id]&&!a0t id σ.heap&&a0t j σ.heap then K ⟨d0h j id σ.env,c7g j id σ.heap⟩ else False
   | _=>False
  | _=>False
 | .acc s id k=>match get s σ.env with
  | .nils=>bif a1k H0 σ [id]&&!a0t id σ.heap then K ⟨put s (.osl id k 0 0) σ.env,put id (.arr k []) σ.heap⟩ else False
  | .osl j _ _ _=>bif Nat.beq j id then K σ else bif a1k H0 σ [id]&&!a0t id σ.heap&&a0t j σ.heap then K ⟨d0h j id σ.env,c7g j id σ.heap⟩ else False
  | _=>False
section
variable {P:Program} {c:Ctx} {g:Gh} {σ:St} {a:Act} {w:World}
theorem b4t {keep:List Nat} {s:Nat} {x:V}:∀{env:List (Nat×V)},find s (d0j keep env)=some x→find s env=some x
 | [],h=>by cases h
 | (m, y)::r,h=>by
  simp only [d0j] at h
  cases hb:Nat.beq s m with
  | true =>
   have e:=zR hb;subst e
   cases hm:mem s keep with
   | true=>rw [hm] at h;simpa [find] using h
   | false =>
    rw [hm] at h
    simp only [vM] at h
    have no:∀{env:List (Nat×V)},find s (d0j keep env)=none:=by
     intro env
     induction env with
     | nil=>rfl
     | cons p r ih =>
      obtain ⟨q,z⟩:=p
      simp only [d0j]
      cases hq:mem q keep with
      | false=>simpa using ih
      | true =>
       simp only [vO,find]
       cases hs:Nat.beq s q with
       | true=>have e:=zR hs;subst e;rw [hm] at hq;cases hq
       | false=>simpa using ih
    rw [no] at h;cases h
  | false =>
   simp only [find,hb,vM]
   cases hm:mem m keep with
   | true=>rw [hm] at h;simp only [vO,find,hb,vM] at h;exact b4t h
   | false=>rw [hm] at h;exact b4t h
theorem a5n (p q:Nat):∀cs:List V,V.renL p q cs=cs.map (V.ren p q)
 | []=>rfl
 | x::r=>by simp [V.renL,a5n p q r]
theorem b9g (p q s:Nat):∀env:List (Nat×V),find s (d0h p q env)=(find s env).map (V.ren p q)
 | []=>rfl
 | (m,x)::r=>by
  simp only [d0h,find]
  cases Nat.beq s m with
  | true=>rfl
  | false=>exact b9g p q s r
theorem a3m {n:Nat}:∀{H:Heap},a0t n H=true↔∃o,find n H=some o
 | []=>by simp [a0t,find]
 | (m,x)::r=>by
  simp only [a0t,find]
  cases Nat.beq n m with
  | true=>simp
  | false=>simpa using a3m
theorem b9f {p q:Nat} (hpq:p≠q):∀{H:Heap},a0t q H=false→∀n o,find n (c7g p q H)=some o→(n=q∧∃o',find p H=some o'∧o=o'.ren p q)∨(n≠q∧n≠p∧∃o',find n H=some o'∧o=o'.ren p q)
 | [],_,n,o,h=>by cases h
 | (m,x)::r,hq,n,o,h=>by
  simp only [a0t,xB] at hq
  obtain ⟨hqm,hqr⟩:=hq
  have ih:=b9f hpq hqr n o
  have hmq:m≠q:=fun e=>by rw [e,vC] at hqm;cases hqm
  simp only [c7g] at h
  by_cases hm:m=p
  ·subst hm
   simp only [vC,vO,find] at h
   by_cases hn:n=q
   ·subst hn
    simp only [vC,vO,xO] at h
    exact .inl ⟨rfl,x,by simp [find],h.symm⟩
   ·have hb:Nat.beq n q=false:=by
     cases hb:Nat.beq n q with
     | true=>exact absurd (zR hb) hn
     | false=>rfl
    simp only [hb,vM] at h
    rcases ih h with ⟨h1,_⟩|⟨h1,h2,o',h3,h4⟩
    ·exact absurd h1 hn
    ·have hb':Nat.beq n m=false:=by
      cases hb:Nat.beq n m with
      | true=>exact absurd (zR hb) h2
      | false=>rfl
     exact .inr ⟨h1,h2,o',by simp only [find,hb',vM];exact h3,h4⟩
  ·have hb:Nat.beq m p=false:=by
    cases hb:Nat.beq m p with
    | true=>exact absurd (zR hb) hm
    | false=>rfl
   simp only [hb,vM,find] at h
   by_cases hn:n=m
   ·subst hn
    simp only [vC,vO,xO] at h
    exact .inr ⟨hmq,hm,x,by simp [find],h.symm⟩
   ·have hb':Nat.beq n m=false:=by
     cases hb:Nat.beq n m with
     | true=>exact absurd (zR hb) hn
     | false=>rfl
    simp only [hb',vM] at h
    rcases ih h with ⟨h1,o',h3,h4⟩|⟨h1,h2,o',h3,h4⟩
    ·refine .inl ⟨h1,o',?_,h4⟩
     have hb2:Nat.beq p m=false:=by
      cases hb:Nat.beq p m with
      | true=>exact absurd (zR hb).symm hm
      | false=>rfl
     simp only [find,hb2,vM];exact h3
    ·exact .inr ⟨h1,h2,o',by simp only [find,hb',vM];exact h3,h4⟩
def Gh.dup (g:Gh) (p q:Nat):Gh :=
 ⟨g.S,fun i=>if i=q then g.ρ p else g.ρ i,fun i=>if i=q then g.base p else g.base i,fun i=>if i=q then g.cap p else g.cap i,fun i=>if i=q then g.nil p else g.nil i⟩
theorem c9c {g:Gh} {p q i:Nat} (h:i≠q):g.agree (g.dup p q) i:=by simp [Gh.agree,Gh.dup,h]
theorem a2s {g:Gh} {p q i:Nat} (h:i≠q):(g.dup p q).ρ (bif Nat.beq i p then q else i)=g.ρ i∧(g.dup p q).base (bif Nat.beq i p then q else i)=g.base i∧(g.dup p q).cap (bif Nat.beq i p then q else i)=g.cap i ∧
  ((g.dup p q).nil (bif Nat.beq i p then q else i)↔g.nil i):=by
 by_cases e:i=p
 ·subst e;simp [Gh.dup]
 ·have:Nat.beq i p=false:=by
   cases hb:Nat.beq i p with
   | true=>exact absurd (zR hb) e
   | false=>rfl
  simp [this,Gh.dup,h]
theorem VR.ren {p q:Nat} {v:Value} {x:V} (h:VR g w v x) (hq:x.has q=false):VR (g.dup p q) w v (x.ren p q):=by
 have hne:∀{i:Nat},Nat.beq q i=false→i≠q:=fun h e=>by rw [e,vC] at h;cases h
 induction h with
 | @rd v x h =>
  have:x.ren p q=x:=by
   have flat:∀{y:V} {u:Value},Rd g.S w u y→y.ren p q=y:=by
    intro y u hy
    induction hy with
    | agg vs cs hl hr ih =>
     simp only [V.ren,a5n,V.agg.injEq]
     refine xS fun i=>?_
     rw [xQ]
     cases hc:cs[i]? with
     | none=>rfl
     | some c=>simp [ih i c hc]
    | _=>rfl
   exact flat h
  rw [this];exact .rd h
 | any v=>exact .any v
 | ptr id off =>
  simp only [V.has] at hq
  have:=(a2s (g:=g) (p:=p) (hne hq)).1
  simp only [V.ren];rw [←this];exact .ptr _ off
 | eptr b o off cur e fz x hS hg hb hr=>exact .eptr b o off cur e fz x hS hg hb hr
 | oslnil id k lo h =>
  simp only [V.has] at hq
  exact .oslnil _ k lo ((a2s (hne hq)).2.2.2.2 h)
 | osl id k lo len o c h ho hc hl hm =>
  simp only [V.has] at hq
  obtain ⟨h1,h2,h3,h4⟩:=a2s (g:=g) (p:=p) (hne hq)
  simp only [V.ren];rw [←h1]
  exact .osl _ k lo len o c (fun h'=>h (h4.1 h')) (by rw [h2];exact ho) (by rw [h3];exact hc) hl hm
 | optr id k i off =>
  simp only [V.has] at hq
  obtain ⟨h1,h2,h3,h4⟩:=a2s (g:=g) (p:=p) (hne hq)
  simp only [V.ren];rw [←h1,←h2];exact .optr _ k i off
 | omap id =>
  simp only [V.has] at hq
  have:=(a2s (g:=g) (p:=p) (hne hq)).1
  simp only [V.ren];rw [←this];exact .omap _
 | bnil id=>exact .bnil _
 | bself id =>
  simp only [V.has] at hq
  have:=(a2s (g:=g) (p:=p) (hne hq)).1
  simp only [V.ren];rw [←this];exact .bself _
 | at_ id b v h =>
  simp only [V.has] at hq
  simp only [V.ren];exact .at_ _ b v ((a2s (g:=g) (p:=p) (hne hq)).1.trans h)
 | nsl z k xs v h =>
  simp only [V.has] at hq
  have:=(a2s (g:=g) (p:=p) (hne hq)).2.1
  simp only [V.ren];exact .nsl _ k xs v (by rw [this];exact h)
 | nsmap b z k kd ents clock es hr hS hg hn =>
  simp only [V.has] at hq
  have:=(a2s (g:=g) (p:=p) (hne hq)).2.1
  simp only [V.ren];exact .nsmap b _ k kd ents clock es hr hS hg fun i ent kv h1 h2=>by rw [this];exact hn i ent kv h1 h2
 | agg vs cs hl hr ih =>
  simp only [V.ren,a5n]
  refine .agg vs _ (by simpa using hl) fun i c hc=>?_
  rw [xQ] at hc
  cases hx:cs[i]? with
  | none=>rw [hx] at hc;cases hc
  | some y=>rw [hx] at hc;cases hc;exact ih i y hx (V.hasL_mem (z6 hx) (by simpa [V.has] using hq))
 | tup vs cs hl hr ih =>
  simp only [V.ren,a5n]
  refine .tup vs _ (by simpa using hl) fun i c hc=>?_
  rw [xQ] at hc
  cases hx:cs[i]? with
  | none=>rw [hx] at hc;cases hc
  | some y=>rw [hx] at hc;cases hc;exact ih i y hx (V.hasL_mem (z6 hx) (by simpa [V.has] using hq))
 | fn f vs cs hl hr ih =>
  simp only [V.ren,a5n]
  refine .fn f vs _ (by simpa using hl) fun i c hc=>?_
  rw [xQ] at hc
  cases hx:cs[i]? with
  | none=>rw [hx] at hc;cases hc
  | some y=>rw [hx] at hc;cases hc;exact ih i y hx (V.hasL_mem (z6 hx) (by simpa [V.has] using hq))
 | bnd f vs cs hl hr ih =>
  simp only [V.ren,a5n]
  refine .bnd f vs _ (by simpa using hl) fun i c hc=>?_
  rw [xQ] at hc
  cases hx:cs[i]? with
  | none=>rw [hx] at hc;cases hc
  | some y=>rw [hx] at hc;cases hc;exact ih i y hx (V.hasL_mem (z6 hx) (by simpa [V.has] using hq))
theorem OR.ren {p q n:Nat} {o:a0i} (h:OR g w n o) (hn:n≠q) (hq:o.has q=false):OR (g.dup p q) w (bif Nat.beq n p then q else n) (o.ren p q):=by
 obtain ⟨h1,h2,h3,h4⟩:=a2s (g:=g) (p:=p) hn
 cases o with
 | cells cs ty =>
  obtain ⟨hnil,cur,e,fz,k1,k2,k3,k4⟩:=h
  refine ⟨fun h=>hnil (h4.1 h),cur,e,fz,by rw [h1];exact k1,by rw [a5n];simpa using k2,k3,fun i c hc=>?_⟩
  rw [a5n,xQ] at hc
  cases hx:cs[i]? with
  | none=>rw [hx] at hc;cases hc
  | some y=>rw [hx] at hc;cases hc;exact (k4 i y hx).ren (V.hasL_mem (z6 hx) (by simpa [a0i.has] using hq))
 | arr k xs ty =>
  rcases h with ⟨hnil,hx⟩|⟨hnil,ha⟩
  ·exact .inl ⟨h4.2 hnil,hx⟩
  ·refine .inr ⟨fun h=>hnil (h4.1 h),?_⟩
   rw [h1,h2,h3];exact ha
 | map kd es =>
  obtain ⟨hnil,ents,clock,k1,k2⟩:=h
  exact ⟨fun h=>hnil (h4.1 h),ents,clock,by rw [h1];exact k1,k2⟩
 | mark =>
  obtain ⟨k1,k2⟩:=h
  exact ⟨h4.2 k1,fun b hb=>k2 b (by rw [←h2];exact hb)⟩
 | nmap z k kd es =>
  obtain ⟨hnil,ents,clock,k1,k2,k3,k4,k5,k6⟩:=h
  have hz:z≠q:=fun e=>by simp [a0i.has,e] at hq
  have:=(a2s (g:=g) (p:=p) hz).2.1
  exact ⟨fun h=>hnil (h4.1 h),ents,clock,by rw [h1];exact k1,k2,k3,k4,fun i ent kv a1 a2=>by rw [this];exact k5 i ent kv a1 a2,fun b hb=>k6 b (by rw [←this];exact hb)⟩
 | iter rem cur =>
  obtain ⟨hnil,k1⟩:=h
  exact ⟨fun h=>hnil (h4.1 h),by rw [h1];exact k1⟩
theorem Rel.ren {p q:Nat} (h:Rel P c g σ a w) (hpq:p≠q) (hcl:Clean c σ q) (hin:a0t q σ.heap=false):Rel P c (g.dup p q) ⟨d0h p q σ.env,c7g p q σ.heap⟩ a w:=by
 have hfind:∀n o,find n σ.heap=some o→n≠q:=fun n o hn e=>by
  have:=a3m.2 ⟨o,hn⟩
  rw [e,hin] at this;cases this
 have ren_p:(bif Nat.beq p p then q else p)=q:=by simp
 have ren_n:∀{n},n≠p→(bif Nat.beq n p then q else n)=n:=fun {n} hn=>by
  have:Nat.beq n p=false:=by
   cases hb:Nat.beq n p with
   | true=>exact absurd (zR hb) hn
   | false=>rfl
  simp [this]
 have key:∀n o,find n (c7g p q σ.heap)=some o→∃m o',find m σ.heap=some o'∧o=o'.ren p q∧n=(bif Nat.beq m p then q else m)∧m≠q:=fun n o hn=>by
  rcases b9f hpq hin n o hn with ⟨h1,o',h2,h3⟩|⟨h1,h2,o',h3,h4⟩
  ·exact ⟨p,o',h2,h3,by rw [ren_p];exact h1,hfind _ _ h2⟩
  ·exact ⟨n,o',h3,h4,(ren_n h2).symm,h1⟩
 refine ⟨h.size,h.dfr,fun s x hx=>?_,⟨fun n o hn=>?_,fun i j o o' hi hj hni hnj he=>?_,fun n o hn hnil hS=>?_,h.hp.lt,h.hp.tabs⟩,⟨h.fr.os,h.fr.tape,h.fr.output,h.fr.size,h.fr.old,fun n o hn hnil=>?_,h.fr.sup,h.fr.sub,fun n o hn=>?_⟩⟩
 ·simp only [b9g] at hx
  cases hy:find s σ.env with
  | none=>rw [hy] at hx;cases hx
  | some y =>
   rw [hy] at hx;cases hx
   obtain ⟨h1,h2⟩:=h.env s y hy
   exact ⟨h1,h2.ren (a3l hcl.2.1 hy)⟩
 ·obtain ⟨m,o',h1,rfl,rfl,h4⟩:=key n o hn
  exact (h.hp.obj m o' h1).ren h4 (a3k hcl.2.2 h1)
 ·obtain ⟨m,o1,h1,rfl,rfl,h4⟩:=key i o hi
  obtain ⟨m',o1',h1',rfl,rfl,h4'⟩:=key j o' hj
  obtain ⟨e1,_,_,e2⟩:=a2s (g:=g) (p:=p) h4
  obtain ⟨e1',_,_,e2'⟩:=a2s (g:=g) (p:=p) h4'
  rw [e1,e1'] at he
  have:=h.hp.inj m m' o1 o1' h1 h1' (fun h=>hni (e2.2 h)) (fun h=>hnj (e2'.2 h)) he
  rw [this]
 ·obtain ⟨m,o1,h1,rfl,rfl,h4⟩:=key n o hn
  obtain ⟨e1,_,_,e2⟩:=a2s (g:=g) (p:=p) h4
  rw [e1] at hS
  exact h.hp.sep m o1 h1 (fun h=>hnil (e2.2 h)) hS
 ·obtain ⟨m,o1,h1,rfl,rfl,h4⟩:=key n o hn
  obtain ⟨e1,_,_,e2⟩:=a2s (g:=g) (p:=p) h4
  rw [e1]
  exact h.fr.own m o1 h1 (fun h=>hnil (e2.2 h))
 ·refine (h.fr.par n o hn).trans (c9c fun e=>?_)
  rw [e,hcl.1] at hn;cases hn
theorem a3u (n:Nat) (xs:List V):∀cs:List V,V.sealL n xs cs=cs.map (V.shut n xs)
 | []=>rfl
 | x::r=>by simp [V.sealL,a3u n xs r]
theorem a3j {n k m:Nat}:∀{cs:List V},V.sealOKs n k m cs→∀c∈cs,c.sealOK n k m
 | [],_,_,h=>by cases h
 | x::r,h,c,hc=>by
  simp only [V.sealOKs] at h
  rcases wY.1 hc with rfl|hc
  ·exact h.1
  ·exact a3j h.2 c hc
theorem b6k (n s:Nat) (xs:List V):∀env:List (Nat×V),find s (b8j n xs env)=(find s env).map (V.shut n xs)
 | []=>rfl
 | (m,x)::r=>by
  simp only [b8j,find]
  cases Nat.beq s m with
  | true=>rfl
  | false=>exact b6k n s xs r
theorem b2a {n k m s:Nat} {x:V}:∀{env:List (Nat×V)},a7t n k m env→find s env=some x→x.sealOK n k m
 | (q,y)::r,h,hf=>by
  simp only [a7t] at h
  simp only [find] at hf
  cases hb:Nat.beq s q with
  | true=>rw [hb] at hf;cases hf;exact h.1
  | false=>rw [hb] at hf;exact b2a h.2 hf
theorem b29 {n k m s:Nat} {x:a0i}:∀{H:Heap},a7s n k m H→find s H=some x→x.sealOK n k m
 | (q,y)::r,h,hf=>by
  simp only [a7s] at h
  simp only [find] at hf
  cases hb:Nat.beq s q with
  | true=>rw [hb] at hf;cases hf;exact h.1
  | false=>rw [hb] at hf;exact b29 h.2 hf
theorem a3n {n s:Nat} {xs:List V} {o:a0i}:∀{H:Heap},find s (b79 n xs H)=some o→s≠n∧∃o',find s H=some o'∧o=o'.shut n xs
 | (m,x)::r,h=>by
  simp only [b79] at h
  cases hb:Nat.beq n m with
  | true =>
   rw [hb] at h
   obtain ⟨h1,o',h2,h3⟩:=a3n (H:=r) h
   have e:=zR hb;subst e
   have hb':Nat.beq s n=false:=by
    cases hb:Nat.beq s n with
    | true=>exact absurd (zR hb) h1
    | false=>rfl
   exact ⟨h1,o',by simp only [find,hb',vM];exact h2,h3⟩
  | false =>
   rw [hb] at h
   simp only [vM,find] at h
   cases hs:Nat.beq s m with
   | true =>
    rw [hs] at h;cases h
    have e:=zR hs;subst e
    refine ⟨fun e=>?_,x,by simp [find],rfl⟩
    rw [e,vC] at hb;cases hb
   | false =>
    rw [hs] at h
    obtain ⟨h1,o',h2,h3⟩:=a3n (H:=r) h
    exact ⟨h1,o',by simp only [find,hs,vM];exact h2,h3⟩
def Gh.sealed (g:Gh) (n:Nat):Gh:={ g with S:=fun b=>g.S b∨(¬g.nil n∧b=g.ρ n) }
theorem a08 (g:Gh) (n i:Nat):g.agree (g.sealed n) i:=⟨rfl,rfl,rfl,vP⟩
theorem VR.shut {n k:Nat} {xs:List V} {ty:Option TypeId} {v:Value} {x:V} (ho:OR g w n (.arr k xs ty)) (h:VR g w v x) (hok:x.sealOK n k xs.length):VR (g.sealed n) w v (x.shut n xs):=by
 have hk:a2e g.S w w:=fun _ _=>rfl
 have hs:∀b,g.S b→(g.sealed n).S b:=fun _ h=>.inl h
 have up:∀{v:Value} {x:V},VR g w v x→VR (g.sealed n) w v x:=fun h=>h.mono hk hs fun id _=>a08 g n id
 induction h with
 | @rd v x h =>
  have:x.shut n xs=x:=by
   have flat:∀{y:V} {u:Value},Rd g.S w u y→y.shut n xs=y:=by
    intro y u hy
    induction hy with
    | agg vs cs hl hr ih =>
     simp only [V.shut,a3u,V.agg.injEq]
     refine xS fun i=>?_
     rw [xQ]
     cases hc:cs[i]? with
     | none=>rfl
     | some c=>simp [ih i c hc]
    | _=>rfl
   exact flat h
  rw [this];exact .rd (h.mono hk hs)
 | any v=>exact .any v
 | ptr id off =>
  simp only [V.shut]
  cases Nat.beq n id with
  | true=>exact .any _
  | false=>exact up (.ptr id off)
 | eptr b o off cur e fz x hS hg hb hr=>exact up (.eptr b o off cur e fz x hS hg hb hr)
 | oslnil id k' lo h =>
  simp only [V.shut]
  cases hb:Nat.beq n id with
  | true =>
   have e:=zR hb;subst e
   simp only [vO,List.take_zero];exact .rd .nilsl
  | false=>exact up (.oslnil id k' lo h)
 | osl id k' lo len o c h hoo hc hl hm =>
  simp only [V.shut]
  cases hb:Nat.beq n id with
  | false=>exact up (.osl id k' lo len o c h hoo hc hl hm)
  | true =>
   have e:=zR hb;subst e
   simp only [V.sealOK,hb,vO] at hok ⊢
   cases hkb:Nat.beq k k' with
   | false=>rw [hkb] at hok;exact hok.elim
   | true =>
    have e:=zR hkb;subst e
    rw [hkb] at hok;simp only [vO] at hok
    rcases ho with ⟨hn,_⟩|⟨hn,hkp,⟨cur,e,fz,h1,h2,h3,h4⟩,h5,h6,h7⟩
    ·exact absurd hn h
    ·have hlen:((xs.drop lo).take len).length=len:=by simp;omega
     refine .rd (.sl _ o len c k cur e fz _ (.inr ⟨h,rfl⟩) h1 hlen (vB hl hm) hl ?_ (fun x hx=>?_) fun i j x cx hi hj=>?_)
     ·rcases hoo with h0|h0
      ·exact .inl (by omega)
      ·refine .inr ?_
       rw [h0,h2,←vK]
       exact zZ k (by omega)
     ·obtain ⟨a1,a2,a3⟩:=h7 x (z5 (List.mem_of_mem_take hx))
      exact ⟨a1,a2,a3⟩
     ·have hil:i<len:=by
       have:=(zG.1 hi).1
       omega
      rw [xI,if_pos hil,xJ] at hi
      have hoo':o=(g.base n+lo)*k:=hoo.resolve_left (by omega)
      have:=(h4 (lo+i) j x cx hi hj).mono hk hs
      have e1:o+i*k+j=(g.base n+(lo+i))*k+j:=by
       rw [hoo',←wW,vK (g.base n+lo) i k]
      rw [e1];exact this
 | optr id k' i off =>
  simp only [V.shut]
  cases Nat.beq n id with
  | true=>exact .any _
  | false=>exact up (.optr id k' i off)
 | omap id =>
  simp only [V.shut]
  cases Nat.beq n id with
  | true=>exact .any _
  | false=>exact up (.omap id)
 | bnil id =>
  simp only [V.shut]
  cases Nat.beq n id with
  | true=>exact .any _
  | false=>exact up (.bnil id)
 | bself id =>
  simp only [V.shut]
  cases Nat.beq n id with
  | true=>exact .any _
  | false=>exact up (.bself id)
 | at_ id b v h=>exact .at_ id b v h
 | nsl z k xs v h=>exact up (.nsl z k xs v h)
 | nsmap b z k kd ents clock es hr hS hg hn=>exact up (.nsmap b z k kd ents clock es hr hS hg hn)
 | agg vs cs hl hr ih =>
  simp only [V.shut,a3u]
  simp only [V.sealOK] at hok
  refine .agg vs _ (by simpa using hl) fun i c hc=>?_
  rw [xQ] at hc
  cases hx:cs[i]? with
  | none=>rw [hx] at hc;cases hc
  | some y=>rw [hx] at hc;cases hc;exact ih i y hx (a3j hok y (z6 hx))
 | tup vs cs hl hr ih =>
  simp only [V.shut,a3u]
  simp only [V.sealOK] at hok
  refine .tup vs _ (by simpa using hl) fun i c hc=>?_
  rw [xQ] at hc
  cases hx:cs[i]? with
  | none=>rw [hx] at hc;cases hc
  | some y=>rw [hx] at hc;cases hc;exact ih i y hx (a3j hok y (z6 hx))
 | fn f vs cs hl hr ih =>
  simp only [V.shut,a3u]
  simp only [V.sealOK] at hok
  refine .fn f vs _ (by simpa using hl) fun i c hc=>?_
  rw [xQ] at hc
  cases hx:cs[i]? with
  | none=>rw [hx] at hc;cases hc
  | some y=>rw [hx] at hc;cases hc;exact ih i y hx (a3j hok y (z6 hx))
 | bnd f vs cs hl hr ih =>
  simp only [V.shut,a3u]
  simp only [V.sealOK] at hok
  refine .bnd f vs _ (by simpa using hl) fun i c hc=>?_
  rw [xQ] at hc
  cases hx:cs[i]? with
  | none=>rw [hx] at hc;cases hc
  | some y=>rw [hx] at hc;cases hc;exact ih i y hx (a3j hok y (z6 hx))
theorem OR.shut {n k m:Nat} {xs:List V} {ty:Option TypeId} {o:a0i} (ho:OR g w n (.arr k xs ty)) (h:OR g w m o) (hok:o.sealOK n k xs.length):OR (g.sealed n) w m (o.shut n xs):=by
 have hk:a2e g.S w w:=fun _ _=>rfl
 have hs:∀b,g.S b→(g.sealed n).S b:=fun _ h=>.inl h
 cases o with
 | cells cs ty =>
  obtain ⟨hnil,cur,e,fz,k1,k2,k3,k4⟩:=h
  simp only [a0i.sealOK] at hok
  refine ⟨hnil,cur,e,fz,k1,by rw [a3u];simpa using k2,k3,fun i c hc=>?_⟩
  rw [a3u,xQ] at hc
  cases hx:cs[i]? with
  | none=>rw [hx] at hc;cases hc
  | some y=>rw [hx] at hc;cases hc;exact (k4 i y hx).shut ho (a3j hok y (z6 hx))
 | arr k' ys _=>exact h.mono hk hs (a08 g n m) (fun _=>rfl) (fun i _=>a08 g n i) (vJ _)
 | map kd es=>exact h.mono hk hs (a08 g n m) (fun _=>rfl) (fun i _=>a08 g n i) (vJ _)
 | iter rem cur=>exact h.mono hk hs (a08 g n m) (fun _=>rfl) (fun i _=>a08 g n i) (vJ _)
 | mark=>exact h.mono hk hs (a08 g n m) (fun _=>rfl) (fun i _=>a08 g n i) (vJ _)
 | nmap z k' kd es=>exact h.mono hk hs (a08 g n m) (fun _=>rfl) (fun i _=>a08 g n i) (vJ _)
theorem Rel.shut {n k:Nat} {xs:List V} {ty:Option TypeId} (h:Rel P c g σ a w) (hf:find n σ.heap=some (.arr k xs ty)) (he:a7t n k xs.length σ.env) (hh:a7s n k xs.length σ.heap) :
  Rel P c (g.sealed n) ⟨b8j n xs σ.env,b79 n xs σ.heap⟩ a w:=by
 have ho:=h.hp.obj n _ hf
 refine ⟨h.size,h.dfr,fun s x hx=>?_,⟨fun m o hm=>?_,fun i j o o' hi hj hni hnj heq=>?_,fun m o hm hnil hS=>?_,fun b hb=>?_,fun w2 hw2=>h.hp.tabs w2 fun b hb=>hw2 b (.inl hb)⟩,⟨h.fr.os,h.fr.tape,h.fr.output,h.fr.size,h.fr.old,fun m o hm hnil=>?_,fun b hb=>.inl (h.fr.sup b hb),fun b hb=>?_,fun m o hm=>(h.fr.par m o hm).trans (a08 g n m)⟩⟩
 ·rw [b6k] at hx
  cases hy:find s σ.env with
  | none=>rw [hy] at hx;cases hx
  | some y =>
   rw [hy] at hx;cases hx
   obtain ⟨h1,h2⟩:=h.env s y hy
   exact ⟨h1,h2.shut ho (b2a he hy)⟩
 ·obtain ⟨_,o',h2,rfl⟩:=a3n hm
  exact OR.shut ho (h.hp.obj m o' h2) (b29 hh h2)
 ·obtain ⟨_,o1,h1,rfl⟩:=a3n hi
  obtain ⟨_,o2,h2,rfl⟩:=a3n hj
  exact h.hp.inj i j o1 o2 h1 h2 hni hnj heq
 ·obtain ⟨hne,o1,h1,rfl⟩:=a3n hm
  rcases hS with hS|⟨hS1,hS2⟩
  ·exact h.hp.sep m o1 h1 hnil hS
  ·exact hne (h.hp.inj m n o1 _ h1 hf hnil hS1 hS2)
 ·rcases hb with hb|⟨h1,rfl⟩
  ·exact h.hp.lt b hb
  ·exact ho.block h1
 ·obtain ⟨_,o1,h1,rfl⟩:=a3n hm
  exact h.fr.own m o1 h1 hnil
 ·rcases hb with hb|⟨h1,rfl⟩
  ·exact h.fr.sub b hb
  ·exact ⟨.inr (h.fr.own n _ hf h1).1,(h.fr.own n _ hf h1).2⟩
theorem a5k (n:Nat) (y:V):∀cs:List V,V.shmL n y cs=cs.map (V.shm n y)
 | []=>rfl
 | x::r=>by simp [V.shmL,a5k n y r]
theorem b9e (n s:Nat) (y:V):∀env:List (Nat×V),find s (c6u n y env)=(find s env).map (V.shm n y)
 | []=>rfl
 | (m,x)::r=>by
  simp only [c6u,find]
  cases Nat.beq s m with
  | true=>rfl
  | false=>exact b9e n s y r
theorem a5b {n s:Nat} {y:V} {o:a0i}:∀{H:Heap},find s (c65 n y H)=some o→s≠n∧∃o',find s H=some o'∧o=o'.shm n y
 | (m,x)::r,h=>by
  simp only [c65] at h
  cases hb:Nat.beq n m with
  | true =>
   rw [hb] at h
   obtain ⟨h1,o',h2,h3⟩:=a5b (H:=r) h
   have e:=zR hb;subst e
   have hb':Nat.beq s n=false:=by
    cases hb:Nat.beq s n with
    | true=>exact absurd (zR hb) h1
    | false=>rfl
   exact ⟨h1,o',by simp only [find,hb',vM];exact h2,h3⟩
  | false =>
   rw [hb] at h
   simp only [vM,find] at h
   cases hs:Nat.beq s m with
   | true =>
    rw [hs] at h;cases h
    have e:=zR hs;subst e
    refine ⟨fun e=>?_,x,by simp [find],rfl⟩
    rw [e,vC] at hb;cases hb
   | false =>
    rw [hs] at h
    obtain ⟨h1,o',h2,h3⟩:=a5b (H:=r) h
    exact ⟨h1,o',by simp only [find,hs,vM];exact h2,h3⟩
theorem a8m {n:Nat} {kd:KD} {es:List (V×V)} (ho:OR g w n (.map kd es)):Rd (g.sealed n).S w (.map (some (g.ρ n))) (.smap kd es):=by
 have hk:a2e g.S w w:=fun _ _=>rfl
 have hs:∀b,g.S b→(g.sealed n).S b:=fun _ h=>.inl h
 obtain ⟨hn,ents,clock,h1,he,h3,h4⟩:=ho
 refine (.smap _ kd ents clock es (.inr ⟨hn,rfl⟩) h1 (by simpa using he.len) he.key h3 h4 (fun i ent kv hi hj=>?_) fun i ent kv hi hj=>?_)
 ·exact (he.rd i ent kv (by simpa using hi) hj).1.mono hk hs
 ·exact (he.rd i ent kv (by simpa using hi) hj).2.mono hk hs
theorem a9a {n z k:Nat} {kd:KD} {es:List (V×V)} (ho:OR g w n (.nmap z k kd es)):VR (g.sealed n) w (.map (some (g.ρ n))) (.nsmap z k kd es):=by
 have hk:a2e g.S w w:=fun _ _=>rfl
 have hs:∀b,g.S b→(g.sealed n).S b:=fun _ h=>.inl h
 obtain ⟨hn,ents,clock,h1,he,h3,h4,h5,_⟩:=ho
 have hrd:=a8m (g:=g) (w:=w) (n:=n) ⟨hn,ents,clock,h1,he,h3,h4⟩
 refine .nsmap _ z k kd ents clock es hrd (.inr ⟨hn,rfl⟩) h1 fun i ent kv hi hj=>?_
 obtain ⟨xs,e1,e2⟩:=h5 i ent kv hi hj
 exact ⟨xs,e1,e2.mono hk hs⟩
theorem VR.shm {n:Nat} {y:V} {v:Value} {x:V} (ho:VR (g.sealed n) w (.map (some (g.ρ n))) y) (h:VR g w v x):VR (g.sealed n) w v (V.shm n y x):=by
 have hk:a2e g.S w w:=fun _ _=>rfl
 have hs:∀b,g.S b→(g.sealed n).S b:=fun _ h=>.inl h
 have up:∀{v:Value} {x:V},VR g w v x→VR (g.sealed n) w v x:=fun h=>h.mono hk hs fun id _=>a08 g n id
 induction h with
 | @rd v x h =>
  have:V.shm n y x=x:=by
   have flat:∀{u:V} {v:Value},Rd g.S w v u→V.shm n y u=u:=by
    intro u v hy
    induction hy with
    | agg vs cs hl hr ih =>
     simp only [V.shm,a5k,V.agg.injEq]
     refine xS fun i=>?_
     rw [xQ]
     cases hc:cs[i]? with
     | none=>rfl
     | some c=>simp [ih i c hc]
    | _=>rfl
   exact flat h
  rw [this];exact .rd (h.mono hk hs)
 | any v=>exact .any v
 | ptr id off=>exact up (.ptr id off)
 | eptr b o off cur e fz x hS hg hb hr=>exact up (.eptr b o off cur e fz x hS hg hb hr)
 | oslnil id k' lo h=>exact up (.oslnil id k' lo h)
 | osl id k' lo len o c h hoo hc hl hm=>exact up (.osl id k' lo len o c h hoo hc hl hm)
 | optr id k' i off=>exact up (.optr id k' i off)
 | bnil id=>exact up (.bnil id)
 | bself id=>exact up (.bself id)
 | omap id =>
  simp only [V.shm]
  cases hb:Nat.beq n id with
  | false=>exact up (.omap id)
  | true =>
   have e:=zR hb;subst e
   simpa using ho
 | at_ id b v h=>exact .at_ id b v h
 | nsl z k xs v h=>exact up (.nsl z k xs v h)
 | nsmap b z k kd ents clock es hr hS hg hn=>exact up (.nsmap b z k kd ents clock es hr hS hg hn)
 | agg vs cs hl hr ih =>
  simp only [V.shm,a5k]
  refine .agg vs _ (by simpa using hl) fun i c hc=>?_
  rw [xQ] at hc
  cases hx:cs[i]? with
  | none=>rw [hx] at hc;cases hc
  | some u=>rw [hx] at hc;cases hc;exact ih i u hx
 | tup vs cs hl hr ih =>
  simp only [V.shm,a5k]
  refine .tup vs _ (by simpa using hl) fun i c hc=>?_
  rw [xQ] at hc
  cases hx:cs[i]? with
  | none=>rw [hx] at hc;cases hc
  | some u=>rw [hx] at hc;cases hc;exact ih i u hx
 | fn f vs cs hl hr ih =>
  simp only [V.shm,a5k]
  refine .fn f vs _ (by simpa using hl) fun i c hc=>?_
  rw [xQ] at hc
  cases hx:cs[i]? with
  | none=>rw [hx] at hc;cases hc
  | some u=>rw [hx] at hc;cases hc;exact ih i u hx
 | bnd f vs cs hl hr ih =>
  simp only [V.shm,a5k]
  refine .bnd f vs _ (by simpa using hl) fun i c hc=>?_
  rw [xQ] at hc
  cases hx:cs[i]? with
  | none=>rw [hx] at hc;cases hc
  | some u=>rw [hx] at hc;cases hc;exact ih i u hx
theorem OR.shm {n m:Nat} {y:V} {o:a0i} (ho:VR (g.sealed n) w (.map (some (g.ρ n))) y) (h:OR g w m o):OR (g.sealed n) w m (o.shm n y):=by
 have hk:a2e g.S w w:=fun _ _=>rfl
 have hs:∀b,g.S b→(g.sealed n).S b:=fun _ h=>.inl h
 cases o with
 | cells cs ty =>
  obtain ⟨hnil,cur,e,fz,k1,k2,k3,k4⟩:=h
  refine ⟨hnil,cur,e,fz,k1,by rw [a5k];simpa using k2,k3,fun i c hc=>?_⟩
  rw [a5k,xQ] at hc
  cases hx:cs[i]? with
  | none=>rw [hx] at hc;cases hc
  | some u=>rw [hx] at hc;cases hc;exact VR.shm ho (k4 i u hx)
 | arr k' ys _=>exact h.mono hk hs (a08 g n m) (fun _=>rfl) (fun i _=>a08 g n i) (vJ _)
 | map kd es=>exact h.mono hk hs (a08 g n m) (fun _=>rfl) (fun i _=>a08 g n i) (vJ _)
 | iter rem cur=>exact h.mono hk hs (a08 g n m) (fun _=>rfl) (fun i _=>a08 g n i) (vJ _)
 | mark=>exact h.mono hk hs (a08 g n m) (fun _=>rfl) (fun i _=>a08 g n i) (vJ _)
 | nmap z k' kd es=>exact h.mono hk hs (a08 g n m) (fun _=>rfl) (fun i _=>a08 g n i) (vJ _)
theorem Rel.shm {n:Nat} {y:V} {on:a0i} (h:Rel P c g σ a w) (hf:find n σ.heap=some on) (ho:VR (g.sealed n) w (.map (some (g.ρ n))) y) :
  Rel P c (g.sealed n) ⟨c6u n y σ.env,c65 n y σ.heap⟩ a w:=by
 refine ⟨h.size,h.dfr,fun s x hx=>?_,⟨fun m o hm=>?_,fun i j o o' hi hj hni hnj heq=>?_,fun m o hm hnil hS=>?_,fun b hb=>?_,fun w2 hw2=>h.hp.tabs w2 fun b hb=>hw2 b (.inl hb)⟩,⟨h.fr.os,h.fr.tape,h.fr.output,h.fr.size,h.fr.old,fun m o hm hnil=>?_,fun b hb=>.inl (h.fr.sup b hb),fun b hb=>?_,h.fr.par⟩⟩
 ·rw [b9e] at hx
  cases hy:find s σ.env with
  | none=>rw [hy] at hx;cases hx
  | some u =>
   rw [hy] at hx;cases hx
   obtain ⟨h1,h2⟩:=h.env s u hy
   exact ⟨h1,VR.shm ho h2⟩
 ·obtain ⟨_,o',h2,rfl⟩:=a5b hm
  exact OR.shm ho (h.hp.obj m o' h2)
 ·obtain ⟨_,o1,h1,rfl⟩:=a5b hi
  obtain ⟨_,o2,h2,rfl⟩:=a5b hj
  exact h.hp.inj i j o1 o2 h1 h2 hni hnj heq
 ·obtain ⟨hne,o1,h1,rfl⟩:=a5b hm
  rcases hS with hS|⟨hS1,hS2⟩
  ·exact h.hp.sep m o1 h1 hnil hS
  ·exact hne (h.hp.inj m n o1 _ h1 hf hnil hS1 hS2)
 ·rcases hb with hb|⟨h1,rfl⟩
  ·exact h.hp.lt b hb
  ·exact (h.hp.obj n _ hf).block h1
 ·obtain ⟨_,o1,h1,rfl⟩:=a5b hm
  exact h.fr.own m o1 h1 hnil
 ·rcases hb with hb|⟨h1,rfl⟩
  ·exact h.fr.sub b hb
  ·exact ⟨.inr (h.fr.own n _ hf h1).1,(h.fr.own n _ hf h1).2⟩
theorem a6b:∀cs:List V,V.unnilL cs=cs.map V.unnil
 | []=>rfl
 | x::r=>by simp [V.unnilL,a6b r]
theorem VR.unnil {v:Value} {x:V} (h:VR g w v x):VR g w v x.unnil:=by
 have rd:∀{v:Value} {x:V},Rd g.S w v x→Rd g.S w v x.unnil:=by
  intro v x h
  induction h with
  | nils=>exact .nilsl
  | agg vs cs hl hr ih =>
   simp only [V.unnil,a6b]
   refine .agg vs _ (by simpa using hl) fun i c hc=>?_
   rw [xQ] at hc
   cases hx:cs[i]? with
   | none=>rw [hx] at hc;cases hc
   | some y=>rw [hx] at hc;cases hc;exact ih i y hx
  | bool b=>exact .bool b
  | int k n h=>exact .int k n h
  | str s h=>exact .str s h
  | nilsl=>exact .nilsl
  | slz a cap=>exact .slz a cap
  | nilp=>exact .nilp
  | nilm=>exact .nilm
  | nilf=>exact .nilf
  | nili=>exact .nili
  | ifcn=>exact .ifcn
  | ifcs t p=>exact .ifcs t p
  | adr b off=>exact .adr b off
  | fnc n=>exact .fnc n
  | sl g' o len cap k cur e fz xs h1 h2 h3 h4 h5 h6 h7 h8 _=>exact .sl g' o len cap k cur e fz xs h1 h2 h3 h4 h5 h6 h7 h8
  | smap b kd ents clock es h1 h2 h3 h4 h5 h6 h7 h8 _ _=>exact .smap b kd ents clock es h1 h2 h3 h4 h5 h6 h7 h8
 induction h with
 | rd h=>exact .rd (rd h)
 | agg vs cs hl hr ih =>
  simp only [V.unnil,a6b]
  refine .agg vs _ (by simpa using hl) fun i c hc=>?_
  rw [xQ] at hc
  cases hx:cs[i]? with
  | none=>rw [hx] at hc;cases hc
  | some y=>rw [hx] at hc;cases hc;exact ih i y hx
 | at_ id b v h=>exact .at_ id b v h
 | any v=>exact .any v
 | ptr id off=>exact .ptr id off
 | eptr b o off cur e fz x hS hg hb hr=>exact .eptr b o off cur e fz x hS hg hb hr
 | oslnil id k lo h=>exact .oslnil id k lo h
 | osl id k lo len o c h1 h2 h3 h4 h5=>exact .osl id k lo len o c h1 h2 h3 h4 h5
 | optr id k i off=>exact .optr id k i off
 | omap id=>exact .omap id
 | bnil id=>exact .bnil id
 | bself id=>exact .bself id
 | nsl z k xs v h=>exact .nsl z k xs v h
 | nsmap b z k kd ents clock es hr hS hg hn=>exact .nsmap b z k kd ents clock es hr hS hg hn
 | tup vs cs hl hr _=>exact .tup vs cs hl hr
 | fn f vs cs hl hr _=>exact .fn f vs cs hl hr
 | bnd f vs cs hl hr _=>exact .bnd f vs cs hl hr
theorem Rel.accC {id off id2 k:Nat} {ty:Option TypeId} {cs:List V} {t:Option TypeId} (h:Rel P c g σ a w) (hf:find id σ.heap=some (.cells cs t)) (hn:cs[off]?=some .nils) (hcl:Clean c σ id2) (hne:id≠id2) :
  Rel P c (g.setNil id2) ⟨σ.env,Go.Ab.put id (.cells (cs.set off (.osl id2 k 0 0)) t) (Go.Ab.put id2 (.arr k [] ty) σ.heap)⟩ a w:=by
 have hk:a2e g.S w w:=fun _ _=>rfl
 have hag:∀i,i≠id2→g.agree (g.setNil id2) i:=fun i hi=>Gh.setNil_agree hi
 have hO:=h.hp.obj id _ hf
 have hO2:OR (g.setNil id2) w id (.cells cs t):=hO.mono hk (fun _ h=>h) (hag id hne) (fun _=>rfl) (fun n hn'=>hag n fun e=>by
  rw [e,a3k hcl.2.2 hf] at hn';cases hn') (vJ _)
 have hnil:¬(g.setNil id2).nil id:=hO2.1
 have hst:a09 g σ.heap w ⟨.any,[],[(id2,.arr k [] ty),(id,.cells (cs.set off (.osl id2 k 0 0)) t)]⟩ (g.setNil id2) w:=by
  refine ⟨rfl,rfl,rfl,vJ _,fun _ _ _=>rfl,fun _ h=>h,fun b hb=>.inl hb,h.hp.lt,fun i hi=>hag i fun e=>hi (.arr k [] ty) (by simp [e]),?_,?_,?_,?_⟩
  ·intro i o ho
   simp at ho
   rcases ho with ⟨rfl,rfl⟩|⟨rfl,rfl⟩
   ·exact .inl ⟨.inl rfl,rfl⟩
   ·obtain ⟨h1,cur,e,fz,h2,h3,h4,h5⟩:=hO2
    refine ⟨h1,cur,e,fz,h2,by simpa using h3,h4,fun j x hj=>?_⟩
    rw [xP] at hj
    by_cases e1:off=j
    ·subst e1
     have hlt:off<cs.length:=(zG.1 hn).1
     simp [hlt] at hj;subst hj
     have:=h5 off _ hn
     rw [this.nils_inv];exact .oslnil id2 k 0 (.inl rfl)
    ·rw [if_neg e1] at hj;exact h5 j x hj
  ·intro i o ho hni
   simp at ho
   rcases ho with ⟨rfl,rfl⟩|⟨rfl,rfl⟩
   ·exact absurd (.inl rfl) hni
   ·obtain ⟨e1,_,_,e4⟩:=hag i hne
    exact .inr ⟨i,_,by simp [Eff.ids],hf,fun h=>hni (e4.2 h),e1.symm⟩
  ·intro i j o o' hi hj hni hnj _
   simp at hi hj
   rcases hi with ⟨rfl,rfl⟩|⟨rfl,rfl⟩
   ·exact absurd (.inl rfl) hni
   ·rcases hj with ⟨rfl,rfl⟩|⟨rfl,rfl⟩
    ·exact absurd (.inl rfl) hnj
    ·rfl
  ·intro i o ho hni hS
   simp at ho
   rcases ho with ⟨rfl,rfl⟩|⟨rfl,rfl⟩
   ·exact hni (.inl rfl)
   ·obtain ⟨e1,_,_,e4⟩:=hag i hne
    rw [e1] at hS
    exact h.hp.sep i _ hf (fun h=>hni (e4.2 h)) hS
 have hfr:a13 c.H0 g (g.setNil id2) σ ⟨.any,[],[(id2,.arr k [] ty),(id,.cells (cs.set off (.osl id2 k 0 0)) t)]⟩:=by
  intro i o ho
  simp at ho
  rcases ho with ⟨rfl,rfl⟩|⟨rfl,rfl⟩
  ·exact .inr ⟨hcl.1,fun s x hx=>a3l hcl.2.1 hx,fun n o' hn' _=>a3k hcl.2.2 hn'⟩
  ·exact .inl (hag i hne)
 exact h.step (d:=none) (v:=undef) (fun n hn=>by cases hn) hst hfr (.any _)
theorem a4v:∀{l:List Nat} {K:St→Prop} {g:Gh} {σ:St},d13 l σ K→Rel P c g σ a w→∃g' σ',K σ'∧Rel P c g' σ' a w
 | [],K,g,σ,h,hR=>⟨g,σ,h,hR⟩
 | id::r,K,g,σ,h,hR=>by
  simp only [d13,f6l] at h
  split at h
  ·rename_i k xs ty hf
   exact a4v h.2.2 (hR.shut hf h.1 h.2.1)
  ·rename_i kd es hf
   exact a4v h (hR.shm hf (.rd (a8m (hR.hp.obj _ _ hf))))
  ·rename_i z k kd es hf
   exact a4v h (hR.shm hf (a9a (hR.hp.obj _ _ hf)))
  ·exact a4v h hR
  ·exact h.elim
theorem Rel.putv {s:Nat} {x y:V} (hR:Rel P c g σ a w) (hx:find s σ.env=some x) (hv:VR g w (a.tmps.getD s undef) y):Rel P c g ⟨Go.Ab.put s y σ.env,σ.heap⟩ a w:=by
 refine ⟨hR.size,hR.dfr,fun n z hn=>?_,hR.hp,hR.fr⟩
 rw [a10] at hn
 split at hn
 ·rename_i e;cases hn;rw [e];exact ⟨(hR.env s _ hx).1,hv⟩
 ·exact hR.env n z hn
theorem VR.at_inv {v:Value} {id b:Nat} (h:VR g w v (.at_ id b)):g.ρ id=b:=by
 cases h with
 | rd h=>cases h
 | at_ _ _ _ h=>exact h
theorem VR.adr_inv {v:Value} {b off:Nat} (h:VR g w v (.adr b off)):v=.pointer (some ⟨b,off,none⟩):=by
 cases h with|rd h=>cases h;rfl
theorem Rel.nl {s:Nat} {x:V} (hR:Rel P c g σ a w) (hx:find s σ.env=some x):Rel P c g ⟨Go.Ab.put s x.unnil σ.env,σ.heap⟩ a w:=by
 refine ⟨hR.size,hR.dfr,fun t y hy=>?_,hR.hp,hR.fr⟩
 simp only [a10] at hy
 obtain ⟨h1,h2⟩:=hR.env s x hx
 by_cases e:t=s
 ·subst e;simp at hy;subst hy;exact ⟨h1,h2.unnil⟩
 ·simp only [e,if_false] at hy;exact hR.env t y hy
def Gh.trim (g:Gh) (n lo:Nat):Gh:={ g with base:=fun i=>if i=n then g.base i+lo else g.base i,cap:=fun i=>if i=n then g.cap i - lo else g.cap i }
theorem c44 {g:Gh} {n lo i:Nat} (h:i≠n):g.agree (g.trim n lo) i:=by simp [Gh.agree,Gh.trim,h]
theorem a7q (n lo len:Nat):∀cs:List V,V.trL n lo len cs=cs.map (V.tr n lo len)
 | []=>rfl
 | x::r=>by simp [V.trL,a7q n lo len r]
theorem c3q (n lo len s:Nat):∀env:List (Nat×V),find s (trE n lo len env)=(find s env).map (V.tr n lo len)
 | []=>rfl
 | (m,x)::r=>by
  simp only [trE,find]
  cases Nat.beq s m with
  | true=>rfl
  | false=>exact c3q n lo len s r
theorem c3p (n lo len s:Nat):∀H:Heap,find s (trH n lo len H)=(find s H).map (a0i.tr n lo len)
 | []=>rfl
 | (m,x)::r=>by
  simp only [trH,find]
  cases Nat.beq s m with
  | true=>rfl
  | false=>exact c3p n lo len s r
theorem d0i {n m:Nat} (h:n≠m):Nat.beq n m=false:=by
 cases hb:Nat.beq n m with
 | true=>exact absurd (zR hb) h
 | false=>rfl
theorem Rd.tr {S:Nat→Prop} {v:Value} {x:V} {n lo len:Nat} (h:Rd S w v x):x.tr n lo len=x:=by
 induction h with
 | agg vs cs hl hr ih =>
  simp only [V.tr,a7q,V.agg.injEq]
  refine xS fun i=>?_
  rw [xQ]
  cases hc:cs[i]? with
  | none=>rfl
  | some c=>simp [ih i c hc]
 | _=>rfl
theorem VR.tr {n lo len:Nat} {v:Value} {x:V} (h:VR g w v x):VR (g.trim n lo) w v (x.tr n lo len):=by
 induction h with
 | rd h=>rw [h.tr];exact .rd h
 | any v=>exact .any v
 | ptr id off =>
  simp only [V.tr]
  by_cases e:id=n
  ·subst e;simp only [vC,vO];exact .any _
  ·simp only [d0i e,vM];exact .ptr (g:=g.trim n lo) id off
 | eptr b o off cur e fz x hS hg hb hr=>exact .eptr b o off cur e fz x hS hg hb hr
 | oslnil id k l h =>
  simp only [V.tr]
  by_cases e:id=n
  ·subst e
   simp only [vC,vO]
   cases Nat.beq l lo&&Nat.beq 0 len with
   | true=>exact .oslnil (g:=g.trim id lo) id k 0 h
   | false=>exact .any _
  ·simp only [d0i e,vM];exact .oslnil (g:=g.trim n lo) id k l h
 | osl id k l m o cc h1 h2 h3 h4 h5 =>
  simp only [V.tr]
  by_cases e:id=n
  ·subst e
   simp only [vC,vO]
   cases hb:Nat.beq l lo&&Nat.beq m len with
   | true =>
    simp only [wE] at hb
    have:=zR hb.1;subst this
    exact .osl (g:=g.trim id l) id k 0 m o cc h1 (by simpa [Gh.trim] using h2) (by simp [Gh.trim];omega) h4 h5
   | false=>exact .any _
  ·simp only [d0i e,vM]
   exact .osl (g:=g.trim n lo) id k l m o cc h1 (by simpa [Gh.trim,e] using h2) (by simpa [Gh.trim,e] using h3) h4 h5
 | optr id k i off =>
  simp only [V.tr]
  by_cases e:id=n
  ·subst e;simp only [vC,vO];exact .any _
  ·simp only [d0i e,vM]
   have:=VR.optr (g:=g.trim n lo) (w:=w) id k i off
   simpa [Gh.trim,e] using this
 | omap id =>
  simp only [V.tr]
  by_cases e:id=n
  ·subst e;simp only [vC,vO];exact .any _
  ·simp only [d0i e,vM];exact .omap (g:=g.trim n lo) id
 | bnil id =>
  simp only [V.tr]
  by_cases e:id=n
  ·subst e;simp only [vC,vO];exact .any _
  ·simp only [d0i e,vM];exact .bnil id
 | bself id =>
  simp only [V.tr]
  by_cases e:id=n
  ·subst e;simp only [vC,vO];exact .any _
  ·simp only [d0i e,vM];exact .bself (g:=g.trim n lo) id
 | at_ id b v h=>exact .at_ id b v h
 | nsl z k xs v h =>
  simp only [V.tr]
  by_cases e:z=n
  ·subst e;simp only [vC,vO];exact .any _
  ·simp only [d0i e,vM]
   have:(g.trim n lo).base z=g.base z:=by simp [Gh.trim,e]
   exact .nsl z k xs v (by rw [this];exact h)
 | nsmap b z k kd ents clock es hr hS hg hn =>
  simp only [V.tr]
  by_cases e:z=n
  ·subst e;simp only [vC,vO];exact .any _
  ·simp only [d0i e,vM]
   have:(g.trim n lo).base z=g.base z:=by simp [Gh.trim,e]
   exact .nsmap b z k kd ents clock es hr hS hg fun i ent kv a1 a2=>by rw [this];exact hn i ent kv a1 a2
 | agg vs cs hl hr ih =>
  simp only [V.tr,a7q]
  refine .agg vs _ (by simpa using hl) fun i c hc=>?_
  rw [xQ] at hc
  cases hx:cs[i]? with
  | none=>rw [hx] at hc;cases hc
  | some y=>rw [hx] at hc;cases hc;exact ih i y hx
 | tup vs cs hl hr ih =>
  simp only [V.tr,a7q]
  refine .tup vs _ (by simpa using hl) fun i c hc=>?_
  rw [xQ] at hc
  cases hx:cs[i]? with
  | none=>rw [hx] at hc;cases hc
  | some y=>rw [hx] at hc;cases hc;exact ih i y hx
 | fn f vs cs hl hr ih =>
  simp only [V.tr,a7q]
  refine .fn f vs _ (by simpa using hl) fun i c hc=>?_
  rw [xQ] at hc
  cases hx:cs[i]? with
  | none=>rw [hx] at hc;cases hc
  | some y=>rw [hx] at hc;cases hc;exact ih i y hx
 | bnd f vs cs hl hr ih =>
  simp only [V.tr,a7q]
  refine .bnd f vs _ (by simpa using hl) fun i c hc=>?_
  rw [xQ] at hc
  cases hx:cs[i]? with
  | none=>rw [hx] at hc;cases hc
  | some y=>rw [hx] at hc;cases hc;exact ih i y hx
theorem OR.tr {n lo len m:Nat} {o:a0i} (h:OR g w m o) (hm:m≠n):OR (g.trim n lo) w m (o.tr n lo len):=by
 cases o with
 | cells cs t =>
  obtain ⟨h1,cur,e,fz,h2,h3,h4,h5⟩:=h
  refine ⟨h1,cur,e,fz,h2,by rw [a7q];simpa using h3,h4,fun i x hx=>?_⟩
  rw [a7q,xQ] at hx
  cases hy:cs[i]? with
  | none=>rw [hy] at hx;cases hx
  | some y=>rw [hy] at hx;cases hx;exact (h5 i y hy).tr
 | arr k xs t =>
  rcases h with ⟨h1,h2⟩|⟨h1,h2⟩
  ·exact .inl ⟨h1,h2⟩
  ·refine .inr ⟨h1,?_⟩
   have e1:(g.trim n lo).base m=g.base m:=by simp [Gh.trim,hm]
   have e2:(g.trim n lo).cap m=g.cap m:=by simp [Gh.trim,hm]
   rw [e1,e2];exact h2
 | map kd es=>exact h
 | iter rem cur=>exact h
 | mark =>
  have e1:(g.trim n lo).base m=g.base m:=by simp [Gh.trim,hm]
  exact ⟨h.1,fun b hb=>h.2 b (by rw [←e1];exact hb)⟩
 | nmap z k kd es =>
  obtain ⟨hnil,ents,clock,k1,k2,k3,k4,k5,k6⟩:=h
  by_cases e:z=n
  ·subst e;simp only [a0i.tr,vC,vO];exact ⟨hnil,ents,clock,k1,k2,k3,k4⟩
  ·simp only [a0i.tr,d0i e,vM]
   have:(g.trim n lo).base z=g.base z:=by simp [Gh.trim,e]
   exact ⟨hnil,ents,clock,k1,k2,k3,k4,fun i ent kv a1 a2=>by rw [this];exact k5 i ent kv a1 a2,fun b hb=>k6 b (by rw [←this];exact hb)⟩
theorem OR.trim {n lo len k:Nat} {xs:List V} {t:Option TypeId} {v:Value} (h:OR g w n (.arr k xs t)) (hv:VR g w v (.osl n k lo len)):OR (g.trim n lo) w n (.arr k ((xs.drop lo).take len) t):=by
 rcases h with ⟨h1,h2⟩|⟨h1,h2⟩
 ·exact .inl ⟨h1,by simp [h2]⟩
 ·refine .inr ⟨h1,?_⟩
  rcases hv.osl_inv with ⟨h3,_⟩|⟨_,o,cc,_,_,hcap,hlc,_⟩
  ·exact absurd h3 h1
  obtain ⟨kpos,⟨cur,e,fz,r1,r2,r3,r4⟩,hlen,hbig,helem⟩:=h2
  have e1:(g.trim n lo).base n=g.base n+lo:=by simp [Gh.trim]
  have e2:(g.trim n lo).cap n=g.cap n - lo:=by simp [Gh.trim]
  rw [e1,e2]
  refine ⟨kpos,⟨cur,e,fz,r1,?_,r3,fun i j x c hx hc=>?_⟩,?_,by omega,fun x hx=>helem x (z5 (List.mem_of_mem_take hx))⟩
  ·rw [r2];congr 1;omega
  ·have hi:i<len:=by
    have:=(zG.1 hx).1
    simp at this;omega
   rw [xI,if_pos hi,xJ] at hx
   have:=r4 (lo+i) j x c hx hc
   rw [show g.base n+lo+i=g.base n+(lo+i) by omega];exact this
  ·simp;omega
theorem Rel.trim {n lo len k s:Nat} {xs:List V} {t:Option TypeId} (h:Rel P c g σ a w) (hs:find s σ.env=some (.osl n k lo len)) (hf:find n σ.heap=some (.arr k xs t)) (h0:find n c.H0=none) :
  Rel P c (g.trim n lo) ⟨trE n lo len σ.env,Go.Ab.put n (.arr k ((xs.drop lo).take len) t) (trH n lo len σ.heap)⟩ a w:=by
 have key:∀m o,find m (Go.Ab.put n (.arr k ((xs.drop lo).take len) t) (trH n lo len σ.heap))=some o→(∃o',find m σ.heap=some o')∧OR (g.trim n lo) w m o:=fun m o hm=>by
  rw [a10] at hm
  by_cases e:m=n
  ·subst e
   simp at hm;subst hm
   exact ⟨⟨_,hf⟩,(h.hp.obj m _ hf).trim (h.env s _ hs).2⟩
  ·simp only [e,if_false,c3p] at hm
   cases hy:find m σ.heap with
   | none=>rw [hy] at hm;cases hm
   | some y=>rw [hy] at hm;cases hm;exact ⟨⟨_,rfl⟩,(h.hp.obj m _ hy).tr e⟩
 refine ⟨h.size,h.dfr,fun s x hx=>?_,⟨fun m o hm=>(key m o hm).2,fun i j o o' hi hj hni hnj he=>?_,fun m o hm hnil hS=>?_,h.hp.lt,h.hp.tabs⟩,⟨h.fr.os,h.fr.tape,h.fr.output,h.fr.size,h.fr.old,fun m o hm hnil=>?_,h.fr.sup,h.fr.sub,fun m o hm=>(h.fr.par m o hm).trans (c44 fun e=>?_)⟩⟩
 ·rw [c3q] at hx
  cases hy:find s σ.env with
  | none=>rw [hy] at hx;cases hx
  | some y=>rw [hy] at hx;cases hx;exact ⟨(h.env s y hy).1,(h.env s y hy).2.tr⟩
 ·obtain ⟨o1,h1⟩:=(key i o hi).1
  obtain ⟨o2,h2⟩:=(key j o' hj).1
  exact h.hp.inj i j o1 o2 h1 h2 hni hnj he
 ·obtain ⟨o1,h1⟩:=(key m o hm).1
  exact h.hp.sep m o1 h1 hnil hS
 ·obtain ⟨o1,h1⟩:=(key m o hm).1
  exact h.fr.own m o1 h1 hnil
 ·rw [e,h0] at hm;cases hm
theorem Rel.nlc {id:Nat} {cs:List V} {t:Option TypeId} (h:Rel P c g σ a w) (hf:find id σ.heap=some (.cells cs t)):Rel P c g ⟨σ.env,Go.Ab.put id (.cells (V.unnilL cs) t) σ.heap⟩ a w:=by
 have key:∀m o,find m (Go.Ab.put id (.cells (V.unnilL cs) t) σ.heap)=some o→(∃o',find m σ.heap=some o')∧OR g w m o:=fun m o hm=>by
  rw [a10] at hm
  by_cases e:m=id
  ·subst e
   simp at hm;subst hm
   refine ⟨⟨_,hf⟩,?_⟩
   obtain ⟨h1,cur,e,fz,h2,h3,h4,h5⟩:=h.hp.obj m _ hf
   refine ⟨h1,cur,e,fz,h2,by rw [a6b];simpa using h3,h4,fun i x hx=>?_⟩
   rw [a6b,xQ] at hx
   cases hy:cs[i]? with
   | none=>rw [hy] at hx;cases hx
   | some y=>rw [hy] at hx;cases hx;exact (h5 i y hy).unnil
  ·simp only [e,if_false] at hm
   exact ⟨⟨_,hm⟩,h.hp.obj m _ hm⟩
 refine ⟨h.size,h.dfr,h.env,⟨fun m o hm=>(key m o hm).2,fun i j o o' hi hj hni hnj he=>?_,fun m o hm hnil hS=>?_,h.hp.lt,h.hp.tabs⟩,⟨h.fr.os,h.fr.tape,h.fr.output,h.fr.size,h.fr.old,fun m o hm hnil=>?_,h.fr.sup,h.fr.sub,h.fr.par⟩⟩
 ·obtain ⟨o1,h1⟩:=(key i o hi).1
  obtain ⟨o2,h2⟩:=(key j o' hj).1
  exact h.hp.inj i j o1 o2 h1 h2 hni hnj he
 ·obtain ⟨o1,h1⟩:=(key m o hm).1
  exact h.hp.sep m o1 h1 hnil hS
 ·obtain ⟨o1,h1⟩:=(key m o hm).1
  exact h.fr.own m o1 h1 hnil
theorem e96 {g:Gh} {w:World} {id:Nat} {x:V} {v:Value} (hx:x.isB id=true) (h:VR g w v x):VR g w v (.bptr id):=by
 unfold V.isB at hx
 split at hx
 ·rw [show v=.pointer none by cases h with|rd h=>cases h;rfl];exact .bnil id
 ·simp only [wE] at hx
  have e1:=zR hx.1
  have e2:=zR hx.2
  subst e1 e2
  rw [h.ptr_inv];exact .bself _
 ·have:=zR hx;subst this;exact h
 ·cases hx
theorem Rel.bld {id:Nat} {x:V} {cs:List V} {t:Option TypeId} (h:Rel P c g σ a w) (hf:find id σ.heap=some (.cells (x::cs) t)) (hx:x.isB id=true):Rel P c g ⟨σ.env,Go.Ab.put id (.cells (.bptr id::cs) t) σ.heap⟩ a w:=by
 have key:∀m o,find m (Go.Ab.put id (.cells (.bptr id::cs) t) σ.heap)=some o→(∃o',find m σ.heap=some o')∧OR g w m o:=fun m o hm=>by
  rw [a10] at hm
  by_cases e:m=id
  ·subst e
   simp at hm;subst hm
   refine ⟨⟨_,hf⟩,?_⟩
   obtain ⟨h1,cur,e,fz,h2,h3,h4,h5⟩:=h.hp.obj m _ hf
   refine ⟨h1,cur,e,fz,h2,by simpa using h3,h4,fun i y hy=>?_⟩
   cases i with
   | zero=>simp at hy;subst hy;exact e96 hx (h5 0 x rfl)
   | succ i=>exact h5 (i+1) y (by simpa using hy)
  ·simp only [e,if_false] at hm
   exact ⟨⟨_,hm⟩,h.hp.obj m _ hm⟩
 refine ⟨h.size,h.dfr,h.env,⟨fun m o hm=>(key m o hm).2,fun i j o o' hi hj hni hnj he=>?_,fun m o hm hnil hS=>?_,h.hp.lt,h.hp.tabs⟩,⟨h.fr.os,h.fr.tape,h.fr.output,h.fr.size,h.fr.old,fun m o hm hnil=>?_,h.fr.sup,h.fr.sub,h.fr.par⟩⟩
 ·obtain ⟨o1,h1⟩:=(key i o hi).1
  obtain ⟨o2,h2⟩:=(key j o' hj).1
  exact h.hp.inj i j o1 o2 h1 h2 hni hnj he
 ·obtain ⟨o1,h1⟩:=(key m o hm).1
  exact h.hp.sep m o1 h1 hnil hS
 ·obtain ⟨o1,h1⟩:=(key m o hm).1
  exact h.fr.own m o1 h1 hnil
theorem c5b:∀{x:V},x.isNils=true→x=.nils
 | .nils,_=>rfl
theorem Rel.nm {id z k:Nat} {kd:KD} {es:List (V×V)} (h:Rel P c g σ a w) (hf:find id σ.heap=some (.map kd es)) (hz:find z σ.heap=some .mark) (hn:es.all (fun e=>e.2.isNils)=true) :
  Rel P c g ⟨σ.env,Go.Ab.put id (.nmap z k kd (es.map fun e=>(e.1,.sl []))) σ.heap⟩ a w:=by
 have key:∀m o,find m (Go.Ab.put id (.nmap z k kd (es.map fun e=>(e.1,.sl []))) σ.heap)=some o→(∃o',find m σ.heap=some o')∧OR g w m o:=fun m o hm=>by
  rw [a10] at hm
  by_cases e:m=id
  ·subst e
   simp at hm;subst hm
   refine ⟨⟨_,hf⟩,?_⟩
   obtain ⟨h1,ents,clock,h2,h3,h4,h5⟩:=h.hp.obj m _ hf
   have val:∀(i:Nat) (ent:MapEntry) (kv:V×V),ents[i]?=some ent→es[i]?=some kv→ent.val=.slice none 0 0:=fun i ent kv hi hj=>by
    have h6:=(h3.rd i ent kv (by simpa using hi) hj).2
    rw [c5b (wD.1 hn kv (z6 hj))] at h6
    exact (VR.rd (g:=g) h6).nils_inv
   have un:∀(i:Nat) (kv:V×V),(es.map fun e=>(e.1,V.sl []))[i]?=some kv→∃kv',es[i]?=some kv'∧kv=(kv'.1,V.sl []):=fun i kv hj=>by
    rw [xQ] at hj
    cases hx:es[i]? with
    | none=>rw [hx] at hj;cases hj
    | some kv'=>rw [hx] at hj;cases hj;exact ⟨kv',rfl,rfl⟩
   refine ⟨h1,ents,clock,h2,⟨by simpa using h3.len,fun kv hm=>?_,fun i ent kv hi hj=>?_⟩,h4,h5,fun i ent kv hi hj=>?_,(h.hp.obj z _ hz).2⟩
   ·obtain ⟨e,he,rfl⟩:=vE.1 hm
    exact h3.key e he
   ·obtain ⟨kv',e1,rfl⟩:=un i kv hj
    refine ⟨(h3.rd i ent kv' hi e1).1,?_⟩
    rw [val i ent kv' (by simpa using hi) e1];exact .nilsl
   ·obtain ⟨kv',e1,rfl⟩:=un i kv hj
    exact ⟨[],rfl,.inl ⟨val i ent kv' hi e1,rfl⟩⟩
  ·simp only [e,if_false] at hm
   exact ⟨⟨_,hm⟩,h.hp.obj m _ hm⟩
 refine ⟨h.size,h.dfr,h.env,⟨fun m o hm=>(key m o hm).2,fun i j o o' hi hj hni hnj he=>?_,fun m o hm hnil hS=>?_,h.hp.lt,h.hp.tabs⟩,⟨h.fr.os,h.fr.tape,h.fr.output,h.fr.size,h.fr.old,fun m o hm hnil=>?_,h.fr.sup,h.fr.sub,h.fr.par⟩⟩
 ·obtain ⟨o1,h1⟩:=(key i o hi).1
  obtain ⟨o2,h2⟩:=(key j o' hj).1
  exact h.hp.inj i j o1 o2 h1 h2 hni hnj he
 ·obtain ⟨o1,h1⟩:=(key m o hm).1
  exact h.hp.sep m o1 h1 hnil hS
 ·obtain ⟨o1,h1⟩:=(key m o hm).1
  exact h.fr.own m o1 h1 hnil
theorem b1l {n:a4x} {K:St→Prop} (h:a0y c.H0 n σ K) (hR:Rel P c g σ a w):∃g' σ',K σ'∧Rel P c g' σ' a w:=by
 cases n with
 | gc keep=>exact ⟨g,_,h,hR.sub (fun s x hx=>b4t hx) fun _ _ h=>h⟩
 | adq s q =>
  simp only [a0y] at h
  split at h
  ·rename_i id off y hs hq
   exact ⟨g,_,h (g.ρ id),hR.putv hq (.at_ id _ _ rfl)⟩
  ·exact h.elim
 | toA s q =>
  simp only [a0y] at h
  split at h
  ·rename_i id off id' b hs hq
   cases hi:Nat.beq id id' with
   | false=>rw [hi] at h;exact h.elim
   | true =>
    rw [hi] at h
    have e:=zR hi;subst e
    have h1:=(hR.env s _ hs).2
    have h2:=(hR.env q _ hq).2
    refine ⟨g,_,h,hR.putv hs ?_⟩
    rw [h1.ptr_inv,←h2.at_inv];exact .rd (.adr _ _)
  ·exact h.elim
 | ofA s q =>
  simp only [a0y] at h
  split at h
  ·rename_i b off id b' hs hq
   obtain ⟨rfl,h⟩:=h
   have h1:=(hR.env s _ hs).2
   have h2:=(hR.env q _ hq).2
   refine ⟨g,_,h,hR.putv hs ?_⟩
   rw [h1.adr_inv,←h2.at_inv];exact .ptr _ _
  ·exact h.elim
 | bld id =>
  simp only [a0y] at h
  split at h
  ·rename_i x cs t hf
   cases hx:x.isB id with
   | false=>rw [hx] at h;exact h.elim
   | true=>rw [hx] at h;exact ⟨g,_,h,hR.bld hf hx⟩
  ·exact h.elim
 | fz s =>
  simp only [a0y] at h
  split at h
  ·rename_i x hx
   obtain ⟨g',σ',h1,h2⟩:=a4v h hR
   split at h1
   ·rename_i y hy
    exact ⟨g',_,h1,h2.nl hy⟩
   ·exact h1.elim
  ·exact ⟨g,σ,h,hR⟩
 | fzc s =>
  simp only [a0y] at h
  split at h
  ·rename_i id off hs
   split at h
   ·rename_i cs t hf
    obtain ⟨g',σ',h1,h2⟩:=a4v h hR
    split at h1
    ·rename_i ds t' hd
     exact ⟨g',_,h1,h2.nlc hd⟩
    ·exact h1.elim
   ·exact h.elim
  ·exact h.elim
 | trim s =>
  simp only [a0y] at h
  split at h
  ·rename_i id k lo n hs
   split at h
   ·rename_i k' xs t hf h0
    cases hk:Nat.beq k k' with
    | false=>rw [hk] at h;exact h.elim
    | true =>
     rw [hk] at h
     have:=zR hk;subst this
     exact ⟨_,_,h,hR.trim hs hf h0⟩
   ·exact h.elim
  ·exact ⟨g,σ,h,hR⟩
 | ownC id off id2 k ty =>
  simp only [a0y] at h
  split at h
  ·rename_i cs t hf
   split at h
   ·rename_i hn
    cases hc:a1k c.H0 σ [id2]&&!a0t id2 σ.heap&&!Nat.beq id id2 with
    | false=>rw [hc] at h;exact h.elim
    | true =>
     rw [hc] at h
     simp only [wE,xV] at hc
     refine ⟨_,_,h,hR.accC hf hn (a1t hc.1.1 id2 xG) fun e=>?_⟩
     have hj:=hc.2
     rw [e,vC] at hj;cases hj
   ·rename_i j k' lo n hn
    cases hj:Nat.beq j id2 with
    | true=>rw [hj] at h;exact ⟨g,σ,h,hR⟩
    | false =>
     rw [hj] at h
     simp only [vM] at h
     cases hc:a1k c.H0 σ [id2]&&!a0t id2 σ.heap&&a0t j σ.heap with
     | false=>rw [hc] at h;exact h.elim
     | true =>
      rw [hc] at h
      simp only [wE,xV] at hc
      refine ⟨_,_,h,hR.ren (fun e=>?_) (a1t hc.1.1 id2 xG) hc.1.2⟩
      rw [e,vC] at hj;cases hj
   ·exact h.elim
  ·exact h.elim
 | fact s =>
  refine ⟨g,σ,h ?_,hR⟩
  rw [a2f]
  cases hf:find s σ.env with
  | none=>simp [V.fact]
  | some x=>exact (hR.env s x hf).2.fact
 | ren j id =>
  simp only [a0y] at h
  cases hc:a1k c.H0 σ [id]&&!a0t id σ.heap&&!Nat.beq j id with
  | false=>rw [hc] at h;exact h.elim
  | true =>
   rw [hc] at h
   simp only [wE,xV] at hc
   refine ⟨_,_,h,hR.ren (fun e=>?_) (a1t hc.1.1 id xG) hc.1.2⟩
   have hj:=hc.2
   rw [e,vC] at hj;cases hj
 | renq j id =>
  simp only [a0y] at h
  cases hj:a0t j σ.heap with
  | false=>rw [hj] at h;exact ⟨_,_,h,hR⟩
  | true =>
   rw [hj] at h
   simp only [vO] at h
   cases hc:a1k c.H0 σ [id]&&!a0t id σ.heap&&!Nat.beq j id with
   | false=>rw [hc] at h;exact h.elim
   | true =>
    rw [hc] at h
    simp only [wE,xV] at hc
    refine ⟨_,_,h,hR.ren (fun e=>?_) (a1t hc.1.1 id xG) hc.1.2⟩
    have hj:=hc.2
    rw [e,vC] at hj;cases hj
 | shq id =>
  simp only [a0y] at h
  split at h
  ·rename_i k xs hf
   exact ⟨_,_,h.2.2,hR.shut hf h.1 h.2.1⟩
  ·rename_i kd es hf
   exact ⟨_,_,h,hR.shm hf (.rd (a8m (hR.hp.obj _ _ hf)))⟩
  ·rename_i z k kd es hf
   exact ⟨_,_,h,hR.shm hf (a9a (hR.hp.obj _ _ hf))⟩
  ·exact ⟨_,_,h,hR⟩
  ·exact h.elim
 | shut id =>
  simp only [a0y] at h
  split at h
  ·rename_i k xs hf
   exact ⟨_,_,h.2.2,hR.shut hf h.1 h.2.1⟩
  ·rename_i kd es hf
   exact ⟨_,_,h,hR.shm hf (.rd (a8m (hR.hp.obj _ _ hf)))⟩
  ·rename_i z k kd es hf
   exact ⟨_,_,h,hR.shm hf (a9a (hR.hp.obj _ _ hf))⟩
  ·exact h.elim
 | accA s off id k =>
  simp only [a0y] at h
  split at h
  ·rename_i cs hf
   split at h
   ·rename_i hn
    cases hc:a1k c.H0 σ [id]&&!a0t id σ.heap with
    | false=>rw [hc] at h;exact h.elim
    | true =>
     rw [hc] at h
     simp only [vO] at h
     simp only [wE,xV] at hc
     have hcl:=a1t hc.1 id xG
     obtain ⟨hlt,hv⟩:=hR.env s _ hf
     have hst:=a09.newNil (g:=g) (w:=w) (V.agg (cs.set off (.osl id k 0 0))) id k [] none hR.hp
     have hfr:a13 c.H0 g (g.setNil id) σ ⟨.agg (cs.set off (.osl id k 0 0)),[],[(id,.arr k [])]⟩:=a13.of_clean hcl
     have hv':VR (g.setNil id) w (a.tmps.getD s undef) (.agg (cs.set off (.osl id k 0 0))):=by
      have hne:=a3l hcl.2.1 hf
      have h2:VR (g.setNil id) w (a.tmps.getD s undef) (.agg cs):=VR.mono (g:=g) (g':=g.setNil id) (w:=w) (w':=w) (fun _ _=>rfl) (fun _ h=>h) hv fun i (hi:V.has i (.agg cs)=true)=>Gh.setNil_agree (g:=g) (n:=id) fun e=>by rw [e] at hi;rw [hne] at hi;cases hi
      obtain ⟨vs,e1,e2,e3⟩:=h2.agg_inv
      rw [e1]
      refine .agg vs _ (by rw [List.length_set];exact e2) fun j x hj=>?_
      rw [xP] at hj
      by_cases e4:off=j
      ·subst e4
       have hlo:off<cs.length:=(zG.1 hn).1
       simp [hlo] at hj;subst hj
       rw [(e3 off _ hn).nils_inv];exact .oslnil id k 0 (.inl rfl)
      ·rw [if_neg e4] at hj;exact e3 j x hj
     have:=hR.step (d:=some s) (fun n hn=>by cases hn;exact hlt) hst hfr hv'
     refine ⟨g.setNil id,_,h,?_⟩
     have e:a.put (some s) (a.tmps.getD s undef)=a:=by
      have hlt':s<a.tmps.size:=by rw [hR.size];exact hlt
      have e1:a.tmps.setIfInBounds s (a.tmps.getD s undef)=a.tmps:=by
       refine Array.ext (by simp) fun i h1 h2=>?_
       rw [Array.getElem_setIfInBounds]
       ·by_cases e:s=i
        ·subst e;simp [hlt']
        ·simp [e]
       ·exact h2
      simp only [Act.put,e1]
     rw [e] at this
     exact this
   ·rename_i j k' lo n hs
    cases hj:Nat.beq j id with
    | true=>rw [hj] at h;exact ⟨g,σ,h,hR⟩
    | false =>
     rw [hj] at h
     simp only [vM] at h
     cases hc:a1k c.H0 σ [id]&&!a0t id σ.heap&&a0t j σ.heap with
     | false=>rw [hc] at h;exact h.elim
     | true =>
      rw [hc] at h
      simp only [wE,xV] at hc
      refine ⟨_,_,h,hR.ren (fun e=>?_) (a1t hc.1.1 id xG) hc.1.2⟩
      rw [e,vC] at hj;cases hj
   ·exact h.elim
  ·exact h.elim
 | acc s id k =>
  simp only [a0y] at h
  split at h
  ·rename_i hs
   cases hc:a1k c.H0 σ [id]&&!a0t id σ.heap with
   | false=>rw [hc] at h;exact h.elim
   | true =>
    rw [hc] at h
    simp only [vO] at h
    simp only [wE,xV] at hc
    have hcl:=a1t hc.1 id xG
    have hf:find s σ.env=some .nils:=by
     rw [a2f] at hs
     cases hf:find s σ.env with
     | none=>rw [hf] at hs;cases hs
     | some x=>rw [hf] at hs;simp at hs;rw [hs]
    obtain ⟨hlt,hv⟩:=hR.env s _ hf
    have hst:=a09.newNil (g:=g) (w:=w) (V.osl id k 0 0) id k [] none hR.hp
    have hfr:a13 c.H0 g (g.setNil id) σ ⟨.osl id k 0 0,[],[(id,.arr k [])]⟩:=a13.of_clean hcl
    have hv':VR (g.setNil id) w (a.tmps.getD s undef) (.osl id k 0 0):=by
     rw [hv.nils_inv];exact .oslnil id k 0 (.inl rfl)
    have:=hR.step (d:=some s) (fun n hn=>by cases hn;exact hlt) hst hfr hv'
    refine ⟨g.setNil id,_,h,?_⟩
    have e:a.put (some s) (a.tmps.getD s undef)=a:=by
     have hlt':s<a.tmps.size:=by rw [hR.size];exact hlt
     have e1:a.tmps.setIfInBounds s (a.tmps.getD s undef)=a.tmps:=by
      refine Array.ext (by simp) fun i h1 h2=>?_
      rw [Array.getElem_setIfInBounds]
      ·by_cases e:s=i
       ·subst e;simp [hlt']
       ·simp [e]
      ·exact h2
     simp only [Act.put,e1]
    rw [e] at this
    exact this
  ·rename_i j k' lo n hs
   cases hj:Nat.beq j id with
   | true=>rw [hj] at h;exact ⟨g,σ,h,hR⟩
   | false =>
    rw [hj] at h
    simp only [vM] at h
    cases hc:a1k c.H0 σ [id]&&!a0t id σ.heap&&a0t j σ.heap with
    | false=>rw [hc] at h;exact h.elim
    | true =>
     rw [hc] at h
     simp only [wE,xV] at hc
     refine ⟨_,_,h,hR.ren (fun e=>?_) (a1t hc.1.1 id xG) hc.1.2⟩
     rw [e,vC] at hj;cases hj
  ·exact h.elim
end
def e1y:List (Nat×V)→List (Nat×V)→Prop
 | [],_=>True
 | (n,x)::r,env=>get n env=x∧e1y r env
def c47:Heap→Heap→Prop
 | [],_=>True
 | (n,o)::r,H=>find n H=some o∧c47 r H
def V.nav:V→Bool
 | .any=>false
 | _=>true
def c54:List (Nat×V)→Bool
 | []=>true
 | (_,x)::r=>x.nav&&c54 r
def distinct {α:Type}:List (Nat×α)→Bool
 | []=>true
 | (n,_)::r=>(match find n r with|none=>true|some _=>false)&&distinct r
def St.good (τ:St):Bool:=c54 τ.env&&distinct τ.env&&distinct τ.heap
def a0u (τ σ:St):Prop:=τ.good=true∧e1y τ.env σ.env∧c47 τ.heap σ.heap
def factsSt (σ:St):Prop:=c3t σ.env∧b0i σ.heap
def a0q (H0:Heap):List a4x→St→(St→Prop)→Prop
 | [],σ,K=>K σ
 | n::r,σ,K=>a0y H0 n σ fun σ'=>a0q H0 r σ' K
theorem a9t {K K':St→Prop} (hk:∀σ,K σ→K' σ):∀{l:List Nat} {σ:St},d13 l σ K→d13 l σ K'
 | [],_,h=>hk _ h
 | id::r,σ,h=>by
  simp only [d13,f6l] at h ⊢
  split at h<;>first|exact ⟨h.1,h.2.1,a9t hk h.2.2⟩|exact a9t hk h|exact h.elim
theorem b5q {b:Bool} {p q:Prop} (h:p→q) (hp:bif b then p else False):bif b then q else False:=by
 cases b with
 | true=>exact h hp
 | false=>exact hp
theorem b77 {H0:Heap} {n:a4x} {σ:St} {K K':St→Prop} (hk:∀σ,K σ→K' σ) (h:a0y H0 n σ K):a0y H0 n σ K':=by
 cases n<;>simp only [a0y] at h ⊢
 case gc=>exact hk _ h
 case fact=>exact fun hf=>hk _ (h hf)
 case adq=>split at h<;>first|exact fun b=>hk _ (h b)|exact h.elim
 case toA=>split at h<;>first|exact b5q (hk _) h|exact h.elim
 case ofA=>split at h<;>first|exact ⟨h.1,hk _ h.2⟩|exact h.elim
 case bld id =>
  split at h
  ·rename_i x cs t hf
   cases hb:x.isB id with
   | true=>rw [hb] at h;exact hk _ h
   | false=>rw [hb] at h;exact h.elim
  ·exact h.elim
 case ren=>exact b5q (hk _) h
 case renq j id =>
  cases hb:a0t j σ.heap with
  | true=>rw [hb] at h;exact b5q (hk _) h
  | false=>rw [hb] at h;exact hk _ h
 case accA s off id k =>
  split at h
  ·split at h
   ·exact b5q (hk _) h
   ·rename_i j _ _ _ _
    cases hb:Nat.beq j id with
    | true=>rw [hb] at h;exact hk _ h
    | false=>rw [hb] at h;exact b5q (hk _) h
   ·exact h.elim
  ·exact h.elim
 case acc s id k =>
  split at h
  ·exact b5q (hk _) h
  ·rename_i j _ _ _ _
   cases hb:Nat.beq j id with
   | true=>rw [hb] at h;exact hk _ h
   | false=>rw [hb] at h;exact b5q (hk _) h
  ·exact h.elim
 case shut=>split at h<;>first|exact ⟨h.1,h.2.1,hk _ h.2.2⟩|exact hk _ h|exact h.elim
 case shq=>split at h<;>first|exact ⟨h.1,h.2.1,hk _ h.2.2⟩|exact hk _ h|exact h.elim
 case ownC id off id2 k ty =>
  split at h
  ·split at h
   ·exact b5q (hk _) h
   ·rename_i j _ _ _ _
    cases hb:Nat.beq j id2 with
    | true=>rw [hb] at h;exact hk _ h
    | false=>rw [hb] at h;exact b5q (hk _) h
   ·exact h.elim
  ·exact h.elim
 case fz =>
  split at h
  ·refine a9t (fun σ' h'=>?_) h
   split at h'<;>first|exact hk _ h'|exact h'.elim
  ·exact hk _ h
 case fzc =>
  split at h
  ·split at h
   ·refine a9t (fun σ' h'=>?_) h
    split at h'<;>first|exact hk _ h'|exact h'.elim
   ·exact h.elim
  ·exact h.elim
 case trim =>
  split at h
  ·split at h
   ·exact b5q (hk _) h
   ·exact h.elim
  ·exact hk _ h
theorem a1r {H0:Heap} {K K':St→Prop} (hk:∀σ,K σ→K' σ):∀{ns:List a4x} {σ:St},a0q H0 ns σ K→a0q H0 ns σ K'
 | [],_,h=>hk _ h
 | n::r,σ,h=>b77 (n:=n) (fun σ' h'=>a1r hk h') h
inductive It where
 | op (m:MOp)
 | nt (n:a4x)
 | grp (ms:List MOp)
def b2i:List It→List MOp
 | []=>[]
 | .op m::r=>m::b2i r
 | .nt _::r=>b2i r
 | .grp ms::r=>ms++b2i r
def c0e (P:Program) (H0:Heap):List It→St→(St→Prop)→Prop
 | [],σ,K=>K σ
 | .op m::r,σ,K=>b65 P H0 m σ fun σ'=>c0e P H0 r σ' K
 | .nt n::r,σ,K=>a0y H0 n σ fun σ'=>c0e P H0 r σ' K
 | .grp ms::r,σ,K=>Lk (∃(α:Type) (I:α→St) (p:α→Prop),runN P H0 ms σ (fun σ'=>Lk (∃y,p y∧a0u (I y) σ'))∧∀y,p y→factsSt (I y)→c0e P H0 r (I y) K)
section
variable {P:Program} {c:Ctx} {g:Gh} {σ:St} {a:Act} {w:World}
theorem b8g {s:Nat} {x:V}:∀{τ env:List (Nat×V)},c54 τ=true→e1y τ env→find s τ=some x→find s env=some x
 | (n,y)::r,env,hn,h,hf=>by
  simp only [c54,wE] at hn
  simp only [e1y] at h
  simp only [find] at hf
  cases hb:Nat.beq s n with
  | true =>
   rw [hb] at hf;cases hf
   have e:=zR hb;subst e
   have h1:=h.1
   rw [a2f] at h1
   cases hg:find s env with
   | none=>rw [hg] at h1;simp at h1;subst h1;simp [V.nav] at hn
   | some z=>rw [hg] at h1;simp at h1;rw [h1]
  | false=>rw [hb] at hf;exact b8g hn.2 h.2 hf
theorem a8f {s:Nat} {x:a0i}:∀{τ env:Heap},c47 τ env→find s τ=some x→find s env=some x
 | (n,y)::r,env,h,hf=>by
  simp only [c47] at h
  simp only [find] at hf
  cases hb:Nat.beq s n with
  | true =>
   rw [hb] at hf;cases hf
   have e:=zR hb;subst e
   exact h.1
  | false=>rw [hb] at hf;exact a8f h.2 hf
theorem Rel.subSt {g:Gh} {σ τ:St} {a:Act} {w:World} (h:Rel P c g σ a w) (hs:a0u τ σ):Rel P c g τ a w:=by
 obtain ⟨h1,h2,h3⟩:=hs
 simp only [St.good,wE] at h1
 exact h.sub (fun _ _ hx=>b8g h1.1.1 h2 hx) fun _ _ hx=>a8f h3 hx
theorem a7b {α:Type} {n:Nat} {x:α}:∀{l:List (Nat×α)},distinct l=true→(n,x)∈l→find n l=some x
 | (m,y)::r,h,hm=>by
  simp only [distinct,wE] at h
  rcases wY.1 hm with e|hm
  ·cases e;simp [find]
  ·have ih:=a7b h.2 hm
   have hb:Nat.beq n m=false:=by
    cases hb:Nat.beq n m with
    | true =>
     have e:=zR hb;subst e
     rw [ih] at h;simp at h
    | false=>rfl
   simp only [find,hb,vM];exact ih
theorem b9k:∀{env:List (Nat×V)},(∀s x,(s,x)∈env→x.fact)→c3t env
 | [],_=>trivial
 | (n,x)::r,h=>⟨h n x xG,b9k fun s y hy=>h s y (xA _ hy)⟩
theorem b9j:∀{H:Heap},(∀s x,(s,x)∈H→x.fact)→b0i H
 | [],_=>trivial
 | (n,x)::r,h=>⟨h n x xG,b9j fun s y hy=>h s y (xA _ hy)⟩
theorem Rel.factsSt {g:Gh} {σ:St} {a:Act} {w:World} (h:Rel P c g σ a w) (hg:σ.good=true):factsSt σ:=by
 simp only [St.good,wE] at hg
 exact ⟨b9k fun s x hx=>(h.env s x (a7b hg.1.2 hx)).2.fact,b9j fun s x hx=>(h.hp.obj s x (a7b hg.2 hx)).fact⟩
theorem a8k:∀{ns:List a4x} {K:St→Prop} {g:Gh} {σ:St},a0q c.H0 ns σ K→Rel P c g σ a w→∃g' σ',K σ'∧Rel P c g' σ' a w
 | [],K,g,σ,h,hR=>⟨g,σ,h,hR⟩
 | n::r,K,g,σ,h,hR=>by
  obtain ⟨g',σ',h',hR'⟩:=b1l (n:=n) (K:=fun σ'=>a0q c.H0 r σ' K) h hR
  exact a8k h' hR'
theorem b2d {ops:Array Oper} {Q:Exit→Act→World→Prop} {K:St→Prop} {m:MOp} {r:List MOp} {i:Nat} {g:Gh} {σ:St} {a:Act} {w:World} (hok:a1p P c.nt ops (m::r) (ops.toList.drop i)=true) (hR:Rel P c g σ a w) (h:b65 P c.H0 m σ K)
  (ih:∀g σ a w,a1p P c.nt ops r (ops.toList.drop (i+1))=true→K σ→Rel P c g σ a w→wpOps P ops Q (List.range' (i+1) r.length) a w):wpOps P ops Q (List.range' i (m::r).length) a w:=by
 rw [wA,List.range'_succ,wpOps_cons]
 cases hd:ops.toList.drop i with
 | nil=>rw [hd] at hok;simp [a1p] at hok
 | cons o s =>
  rw [hd] at hok
  simp only [a1p,wE] at hok
  obtain ⟨hm,hr⟩:=hok
  have hi:ops[i]?=some o:=by
   have:(ops.toList.drop i)[0]?=some o:=by rw [hd];rfl
   rw [xJ,vD,zW] at this
   exact this
  have hs:ops.toList.drop (i+1)=s:=by
   have:=congrArg List.tail hd
   simpa using this
  rw [←hs] at hr
  have ih:=fun g σ a w=>ih g σ a w hr
  have hm':=hm
  simp only [MOp.ok,wE] at hm'
  obtain ⟨⟨_,h2⟩,h3⟩:=hm'
  obtain ⟨hdd,hlt⟩:=b0j h2
  simp only [wpOp,hi]
  simp only [b65] at h
  cases hg:m.guard with
  | none =>
   rw [hg] at h h3
   simp only [b1r h3,if_true]
   exact .inl (a5m hm hR h fun eff he g' a' w' hR'=>ih g' _ a' w' he hR')
  | some p =>
   obtain ⟨t,want⟩:=p
   rw [hg] at h h3
   simp only at h
   split at h
   case h_3=>exact h.elim
   case h_2 hb =>
    rw [b4o h3 hR hb]
    simp only [xL,if_false]
    exact ih g _ _ w h (by rw [←hdd];exact hR.undef' hlt)
   rename_i b hb
   obtain ⟨hx,hy⟩:=h
   rw [a7x h3 hR hb]
   have hf:=b0c hb
   by_cases hbw:b=want
   ·subst hbw
    have hw:d0k b b=true:=by cases b<;>rfl
    simp only [hw,if_true]
    have hx:=hx rfl
    rw [a5o hf] at hx
    exact .inl (a5m hm hR hx fun eff he g' a' w' hR'=>ih g' _ a' w' he hR')
   ·have hbn:b=(!want):=by cases b<;>cases want<;>first|rfl|exact absurd rfl hbw
    have hw:d0k b want=false:=by rw [hbn];cases want<;>rfl
    simp only [hw,xL,if_false]
    have hy:=hy hbn
    rw [←hbn,a5o hf] at hy
    exact ih g _ _ w hy (by rw [←hdd];exact hR.undef' hlt)
theorem b3s {ops:Array Oper} {Q:Exit→Act→World→Prop} {K:St→Prop} {rest:List MOp} :
  ∀(ms:List MOp) (i:Nat) (g:Gh) (σ:St) (a:Act) (w:World),a1p P c.nt ops (ms++rest) (ops.toList.drop i)=true→Rel P c g σ a w→runN P c.H0 ms σ K →
  (∀σ' g' a' w',K σ'→a1p P c.nt ops rest (ops.toList.drop (i+ms.length))=true→Rel P c g' σ' a' w'→wpOps P ops Q (List.range' (i+ms.length) rest.length) a' w')→wpOps P ops Q (List.range' i (ms++rest).length) a w
 | [],i,g,σ,a,w,hok,hR,h,hK=>hK σ g a w h hok hR
 | m::r,i,g,σ,a,w,hok,hR,h,hK=>by
  refine b2d (K:=fun σ'=>runN P c.H0 r σ' K) hok hR h fun g σ a w hok' h' hR'=>?_
  refine b3s r (i+1) g σ a w hok' hR' h' fun σ' g' a' w' k1 k2 k3=>?_
  have e:i+(m::r).length=i+1+r.length:=by simp;omega
  have:=hK σ' g' a' w' k1 (by rw [e];exact k2) k3
  rwa [e] at this
theorem a8h {ops:Array Oper} {Q:Exit→Act→World→Prop} {K:St→Prop} (hK:∀σ' g' a' w',K σ'→Rel P c g' σ' a' w'→Q .normal a' w') :
  ∀(ms:List It) (i:Nat) (g:Gh) (σ:St) (a:Act) (w:World),a1p P c.nt ops (b2i ms) (ops.toList.drop i)=true→Rel P c g σ a w→c0e P c.H0 ms σ K→wpOps P ops Q (List.range' i (b2i ms).length) a w
 | [],i,g,σ,a,w,_,hR,h=>hK σ g a w h hR
 | .nt n::r,i,g,σ,a,w,hok,hR,h=>by
  obtain ⟨g',σ',h',hR'⟩:=b1l (n:=n) (K:=fun σ'=>c0e P c.H0 r σ' K) h hR
  exact a8h hK r i g' σ' a w hok hR' h'
 | .op m::r,i,g,σ,a,w,hok,hR,h =>
  b2d (K:=fun σ'=>c0e P c.H0 r σ' K) hok hR h fun g σ a w hok' h' hR'=>a8h hK r (i+1) g σ a w hok' hR' h'
 | .grp ms::r,i,g,σ,a,w,hok,hR,h=>by
  obtain ⟨α,I,p,h1,h2⟩:=Lk.out h
  refine b3s ms i g σ a w hok hR h1 fun σ' g' a' w' k1 k2 k3=>?_
  obtain ⟨y,hy,hs⟩:=Lk.out k1
  have hr':=k3.subSt hs
  exact a8h hK r _ g' (I y) a' w' k2 hr' (h2 y hy (hr'.factsSt hs.1))
theorem c1b {ops:Array Oper} {ms:List It} {Q:Exit→Act→World→Prop} {K:St→Prop} (hK:∀σ' g' a' w',K σ'→Rel P c g' σ' a' w'→Q .normal a' w')
  (hok:a1p P c.nt ops (b2i ms) ops.toList=true) (hR:Rel P c g σ a w) (h:c0e P c.H0 ms σ K):wpOps P ops Q (List.range ops.size) a w:=by
 have hl:∀{ms:List MOp} {l:List Oper},a1p P c.nt ops ms l=true→ms.length=l.length:=by
  intro ms
  induction ms with
  | nil =>
   intro l h
   cases l with
   | nil=>rfl
   | cons o s=>cases h
  | cons m r ih =>
   intro l h
   cases l with
   | nil=>cases h
   | cons o s =>
    simp only [a1p,wE] at h
    simp only [wA,ih h.2]
 have:=a8h hK ms 0 g σ a w (by rw [wU];exact hok) hR h
 rw [hl hok,xD] at this
 rwa [List.range_eq_range']
end
def WF (r:Option Nat):Fence:={ Fence.wide with round:=r }
theorem d61 (r:Option Nat) (n:Nat):(WF r).room n:=room_wide n
section
variable {P:Program} {r:Option Nat} {n:Nat}
theorem a6n {f:FuncId} {args:Array Value} {w:World} {R:Ending→World→Prop} (h:Calls P f args w R):CallsIn (WF r) n P f args w R :=
 ⟨trivial,fun cs hr=>((callsIn_wide (n:=n)).2 h).2 cs hr⟩
theorem a8t {f:FuncId} {args:Array Value} {w:World} {R:Ending→World→Prop} (h:CallsIn (WF r) n P f args w R):Calls P f args w R :=
 h.calls (d61 r)
theorem c73 {row:String} {args:Array Value} {w:World} {R:Value→World→Prop} (h:Rows P row args w R):RowsIn (WF r) n P row args w R :=
 fun c cs _=>let ⟨v,w',hr,hs⟩:=h c cs;⟨v,w',hr,stepsIn_wide.2 hs⟩
def a3c (o:Oper):Bool:=match o.op with|.defer _=>false|_=>true
theorem c1g {o:Oper} (h:a3c o=true):∀c,o.op≠.defer c:=by
 intro c e;simp [a3c,e] at h
theorem d7r {o:Oper} {a:Act} {w:World} {K:Act→World→Prop} {Q:Exit→Act→World→Prop} (hd:a3c o=true) (h:o.wp P a w K Q):o.wpIn (WF r) n P a w K Q:=by
 refine ⟨fun _ _=>trivial,?_⟩
 rw [Oper.semAt_eq _ _ _ (c1g hd)]
 unfold Oper.wp at h
 generalize (execOp a.eval o).run P w=res at *
 cases res with
 | ok x w' =>
  cases x with
  | value v=>exact h
  | skip=>exact h
  | enter f args=>exact ⟨fun h=>by simp [WF,Fence.wide] at h,a6n h⟩
  | row row args=>exact ⟨fun h=>by simp [WF,Fence.wide] at h,c73 h⟩
  | _=>first|exact h|exact h.elim
 | halt x w' => 
  cases x with
  | panic v=>exact h
  | _=>exact h.elim
theorem a8j {ops:Array Oper} {Q:Exit→Act→World→Prop} (hd:(ops.toList.all a3c)=true) (hQ:∀a w,¬Q .outgrown a w) :
  ∀(l:List Nat) (a:Act) (w:World),wpOps P ops Q l a w→wpOpsIn (WF r) n P ops Q l a w
 | [],a,w,h=>h
 | i :: rest,a,w,h=>by
  simp only [wpOps] at h
  simp only [wpOpsIn]
  cases ho:ops[i]? with
  | none=>rw [ho] at h;exact a8j hd hQ rest a w h
  | some o =>
   rw [ho] at h
   have hnd:a3c o=true:=by
    have:=wD.1 hd o (by
     have:=zW (xs:=ops) (i:=i)
     rw [ho] at this
     exact z6 this)
    exact this
   by_cases hw:Region.wanted o (yielded ops a.tmps)=true
   ·simp only [hw,if_true] at h ⊢
    rcases h with h|⟨_,a0,w0,h⟩
    ·exact Oper.wpIn_mono (fun a w h=>a8j hd hQ rest a w h) (d7r hnd h)
    ·exact absurd h (hQ a0 w0)
   ·simp only [hw,if_false] at h ⊢
    exact ⟨fun _ _=>trivial,a8j hd hQ rest _ w h⟩
variable {c:Ctx} {g:Gh} {σ:St} {a:Act} {w:World}
theorem c7h {id:Nat} {ops:Array Oper} {ms:List MOp} {Q:Exit→Act→World→Prop} {K:St→Prop} (hd:(ops.toList.all a3c)=true) (hQ:∀a w,¬Q .outgrown a w) (hK:∀σ' g' a' w',K σ'→Rel P c g' σ' a' w'→Q .normal a' w')
  (hok:a1p P c.nt ops ms ops.toList=true) (hR:Rel P c g σ a w) (h:runN P c.H0 ms σ K):(Code.region id ops false).wpIn (WF r) n P Q a w :=
 wpIn_region (a8j hd hQ _ _ _ (c4u hK hok hR h))
theorem c4v {id:Nat} {ops:Array Oper} {ms:List It} {Q:Exit→Act→World→Prop} {K:St→Prop} (hd:(ops.toList.all a3c)=true) (hQ:∀a w,¬Q .outgrown a w) (hK:∀σ' g' a' w',K σ'→Rel P c g' σ' a' w'→Q .normal a' w')
  (hok:a1p P c.nt ops (b2i ms) ops.toList=true) (hR:Rel P c g σ a w) (h:c0e P c.H0 ms σ K):(Code.region id ops false).wpIn (WF r) n P Q a w :=
 wpIn_region (a8j hd hQ _ _ _ (c1b hK hok hR h))
theorem c4w {id:Nat} {ops:Array Oper} {ms:List MOp} {aft anc:List (List Nat)} {Q:Exit→Act→World→Prop} {K:St→Prop} (hd:(ops.toList.all a3c)=true) (hQ:∀a w,¬Q .outgrown a w) (hmix:P.follows .mixedOrders=true)
  (hK:∀σ' g' a' w',K σ'→Rel P c g' σ' a' w'→Q .normal a' w') (hok:a1p P c.nt ops ms ops.toList=true) (haft:b39 aft ops.toList=true) (hanc:b0s anc 0 aft anc=true) (hlate:b07 ms ms anc=true) (hR:Rel P c g σ a w)
  (h:c6y P c.H0 ms [] σ fun log σ'=>a3h c.H0 σ 0 anc log.reverse=true∧K σ'):(Code.region id ops true).wpIn (WF r) n P Q a w :=
 wpIn_region_draw fun t=>a8j hd hQ _ _ _ (c1c hmix hK hok haft hanc hlate hR h t)
end
mutual
def V.within (l:List Nat):V→Bool
 | .ptr id _=>mem id l
 | .osl id _ _ _=>mem id l
 | .optr id _ _ _=>mem id l
 | .omap id=>mem id l
 | .bptr id=>mem id l
 | .agg cs=>V.withinL l cs
 | .nsl z _ _=>mem z l
 | .nsmap z _ _ _=>mem z l
 | .at_ z _=>mem z l
 | .tup cs=>V.withinL l cs
 | .fn _ cs=>V.withinL l cs
 | _=>true
def V.withinL (l:List Nat):List V→Bool
 | []=>true
 | x::r=>x.within l&&V.withinL l r
end
theorem b09 {n:Nat}:∀{l:List V},V.hasL n l=true↔∃x∈l,x.has n=true
 | []=>by simp [V.hasL]
 | y::r=>by simp [V.hasL,b09 (l:=r)]
theorem a3i {l:List Nat}:∀{cs:List V},V.withinL l cs=true↔∀x∈cs,x.within l=true
 | []=>by simp [V.withinL]
 | y::r=>by simp [V.withinL,a3i (cs:=r)]
theorem a2y {l:List Nat} {id:Nat}:∀{x:V},x.within l=true→x.has id=true→id∈l
 | .ptr i _,h,hh=>by
  simp only [V.within,V.has] at h hh
  rw [zR hh];exact mem_iff.1 h
 | .osl i _ _ _,h,hh=>by
  simp only [V.within,V.has] at h hh
  rw [zR hh];exact mem_iff.1 h
 | .optr i _ _ _,h,hh=>by
  simp only [V.within,V.has] at h hh
  rw [zR hh];exact mem_iff.1 h
 | .omap i,h,hh=>by
  simp only [V.within,V.has] at h hh
  rw [zR hh];exact mem_iff.1 h
 | .bptr i,h,hh=>by
  simp only [V.within,V.has] at h hh
  rw [zR hh];exact mem_iff.1 h
 | .nsl i _ _,h,hh=>by
  simp only [V.within,V.has] at h hh
  rw [zR hh];exact mem_iff.1 h
 | .nsmap i _ _ _,h,hh=>by
  simp only [V.within,V.has] at h hh
  rw [zR hh];exact mem_iff.1 h
 | .at_ i _,h,hh=>by
  simp only [V.within,V.has] at h hh
  rw [zR hh];exact mem_iff.1 h
 | .agg cs,h,hh=>by
  simp only [V.within,V.has] at h hh
  obtain ⟨x,hx,hxh⟩:=b09.1 hh
  exact a2y (a3i.1 h x hx) hxh
 | .tup cs,h,hh=>by
  simp only [V.within,V.has] at h hh
  obtain ⟨x,hx,hxh⟩:=b09.1 hh
  exact a2y (a3i.1 h x hx) hxh
 | .fn f cs,h,hh=>by
  simp only [V.within,V.has] at h hh
  obtain ⟨x,hx,hxh⟩:=b09.1 hh
  exact a2y (a3i.1 h x hx) hxh
 | .bool _,_,hh|.int _ _,_,hh|.str _,_,hh|.nils,_,hh|.nilp,_,hh|.nilm,_,hh|.nilf,_,hh|.nili,_,hh|.sl _,_,hh|.eptr _ _,_,hh|.any,_,hh=>by simp [V.has] at hh
def d4b (g:Gh) (H:Heap) (b:Nat):Prop:=∃id o,find id H=some o∧¬g.nil id∧g.ρ id=b
def d0d (B:Nat→Prop) (W W':World):Prop :=
 W'.os=W.os∧W'.tape=W.tape∧W'.output=W.output∧W.heap.size≤W'.heap.size∧∀b,b<W.heap.size→¬B b→W'.heap[b]?=W.heap[b]?
def d5q (g:Gh) (H:Heap) (W W':World):Prop:=a2e g.S W W'∧∀b,d4b g H b→W'.heap[b]?=W.heap[b]?
def b89 (P:Program) (gf:Nat) (caps:List V) (Hc:Heap) (xss:List (List V)):Prop :=
 callable P gf=true∧∀(g:Gh) (w:World) (lb:Array Value),a3p P g w Hc→lb.size=caps.length→(∀(i:Nat) (x:V),caps[i]?=some x→VR g w (lb.getD i undef) x) →
  ∀ (l:Nat) (J:Nat→World→Prop) (Jx:World→Prop),
   (∀k W W',J k W→d0d (d4b g Hc) W W'→J k W')→(∀W W',Jx W→d0d (d4b g Hc) W W'→Jx W') →
   (∀k xs W vals,xss[k]?=some xs→vals.size=xs.length→(∀(i:Nat) (x:V),xs[i]?=some x→VR g W (vals.getD i undef) x)→J k W →
    YieldAt (WF none) 0 P l vals W fun e W'=>(e=.returned (.bool true)∧J (k+1) W'∧d5q g Hc W W')∨(e=.returned (.bool false)∧Jx W')) →
   J 0 w→CallsIn (WF none) 0 P gf (#[.func (.yield l) #[] #[]]++lb) w fun e W'=>(∃v,e=.returned v)∧(J xss.length W'∨Jx W')
structure Ctx.le (c c':Ctx):Prop where
 w0:c'.w0=c.w0
 g0:c'.g0=c.g0
 H0:c'.H0=c.H0
 nt:c'.nt=c.nt
 hm:c'.hm=c.hm
 gp:c'.gp=c.gp
 wp:c'.wp=c.wp
 kp:∃k,c'.kp=k++c.kp
 dfr:∃Ds:List Nat,c'.dfr=Ds.map (fun D=>{ target:=.collected D,args:=#[] })++c.dfr∧Ds.Nodup∧∀D∈Ds,(D,.deferred (some []))∈c'.kp∧c.free D
theorem Ctx.le.refl (c:Ctx):c.le c:=⟨rfl,rfl,rfl,rfl,rfl,rfl,rfl,⟨[],rfl⟩,⟨[],rfl,List.nodup_nil,fun _ h=>by cases h⟩⟩
theorem Ctx.le.trans {a b c:Ctx} (h:a.le b) (k:b.le c):a.le c:=by
 obtain ⟨k1,e1⟩:=h.kp
 obtain ⟨k2,e2⟩:=k.kp
 obtain ⟨D1,f1,n1,m1⟩:=h.dfr
 obtain ⟨D2,f2,n2,m2⟩:=k.dfr
 refine ⟨k.w0.trans h.w0,k.g0.trans h.g0,k.H0.trans h.H0,k.nt.trans h.nt,k.hm.trans h.hm,k.gp.trans h.gp,k.wp.trans h.wp,⟨k2++k1,by rw [e2,e1,List.append_assoc]⟩,
  ⟨D2++D1,by rw [f2,f1,List.map_append,List.append_assoc],List.nodup_append.2 ⟨n2,n1,fun x hx y hy e=>?_⟩,fun D hD=>?_⟩⟩
 ·subst e
  exact (m2 x hx).2 _ (m1 x hy).1
 ·rcases wL.1 hD with h|h
  ·exact ⟨(m2 D h).1,fun o ho=>(m2 D h).2 o (by rw [e1];exact zU _ ho)⟩
  ·exact ⟨by rw [e2];exact zU _ (m1 D h).1,(m1 D h).2⟩
section
variable {P:Program} {c c2:Ctx} {g:Gh} {σ:St} {a:Act} {w w':World}
theorem a3p.other {H:Heap} (h:a3p P g w H) (hf:Frm c g w H) (hsz:w.heap.size≤w'.heap.size) (hb:∀b,b<w.heap.size→c.free b→w'.heap[b]?=w.heap[b]?):a3p P g w' H∧a2e g.S w w':=by
 have hk:a2e g.S w w':=fun b hS=>hb b (h.lt b hS) (hf.sub b hS).2
 refine ⟨⟨fun id o ho=>(h.obj id o ho).mono (g':=g) hk (fun _ h=>h) (Gh.agree.refl _ _) (fun hn=>hb _ ((h.obj id o ho).block hn) (hf.own id o ho hn).2) (fun n _=>Gh.agree.refl _ _) hsz,h.inj,h.sep,fun b hS=>xE (h.lt b hS) hsz,
  fun w2 hw2=>h.tabs w2 fun b hS=>(hw2 b hS).trans (hk b hS)⟩,hk⟩
theorem Frm.other {H:Heap} {ds:List Deferred} (hf:Frm c g w H) (h:a3p P g w H) (hd:Dfr c w ds) (e0:c2.w0=c.w0) (eg:c2.g0=c.g0) (eh:c2.hm=c.hm) (hgp:∀b,c2.gp.S b→g.S b) (hpar:∀id o,find id c2.H0=some o→c2.gp.agree g id)
  (hos:w'.os=w.os) (ht:w'.tape=w.tape) (ho:w'.output=w.output) (hsz:w.heap.size≤w'.heap.size) (hb:∀b,b<w.heap.size→c.free b→w'.heap[b]?=w.heap[b]?) (hfr:∀b,b<w.heap.size→(g.S b∨d4b g H b)→c.free b→c2.free b):Frm c2 g w' H:=by
 have hM:∀b,c2.M b↔c.M b:=fun b=>by simp only [Ctx.M,eg,eh]
 refine ⟨by rw [e0,hos,hf.os],by rw [e0,ht,hf.tape],by rw [e0,ho,hf.output],by rw [e0];exact vB hf.size hsz,fun b hlt hm=>?_,fun id o hi hn=>⟨?_,?_⟩,fun b hS=>?_,fun b hS=>⟨?_,?_⟩,hpar⟩
 ·rw [e0] at hlt ⊢
  refine (hb b (xE hlt hf.size) fun o hm'=>?_).trans (hf.old b hlt fun h=>hm ((hM b).2 h))
  rcases (hd.2.1 b o hm').1 with h1|h1
  ·omega
  ·exact hm ((hM b).2 h1)
 ·rw [e0,hM];exact (hf.own id o hi hn).1
 ·exact hfr _ ((h.obj id o hi).block hn) (.inr ⟨id,o,hi,hn,rfl⟩) (hf.own id o hi hn).2
 ·rcases hS with hS|hS
  ·rw [eg] at hS;exact hf.sup b (.inl hS)
  ·exact hgp b hS
 ·rw [e0,eg,hM];exact (hf.sub b hS).1
 ·exact hfr _ (h.lt b hS) (.inl hS) (hf.sub b hS).2
end
def b7i (H0:Heap) (pins:List Nat):Heap:=pins.map (fun i=>(i,a0i.iter [] none))++H0
theorem b0g {H0:Heap} {id:Nat}:∀{pins:List Nat},(∃o,find id (b7i H0 pins)=some o)↔(id∈pins∨∃o,find id H0=some o)
 | []=>by simp [b7i]
 | p::r=>by
  have ih:=b0g (H0:=H0) (id:=id) (pins:=r)
  simp only [b7i] at ih
  simp only [b7i,wZ,wC,find]
  cases hb:Nat.beq id p with
  | true=>simp [zR hb]
  | false =>
   have:id≠p:=fun e=>by rw [e,vC] at hb;cases hb
   simp only [vM,ih,wY,this,false_or]
def b5k:List Nat→List V→List (Nat×V)→List (Nat×V)
 | p::ps,x::xs,e=>b5k ps xs (put p x e)
 | _,_,e=>e
def b9o (pins:List Nat):List (Nat×V)→Bool
 | []=>true
 | (_,x)::r=>x.within pins&&b9o pins r
theorem b1w {pins:List Nat} {s:Nat} {x:V}:∀{e:List (Nat×V)},b9o pins e=true→find s e=some x→x.within pins=true
 | (n,y)::r,h,hf=>by
  simp only [b9o,wE] at h
  simp only [find] at hf
  cases hb:Nat.beq s n with
  | true=>rw [hb] at hf;cases hf;exact h.1
  | false=>rw [hb] at hf;exact b1w h.2 hf
def c62 (nt:Nat) (g:Gh) (w:World) (tmps:Array Value) (e:List (Nat×V)):Prop:=∀s x,find s e=some x→s<nt∧VR g w (tmps.getD s undef) x
theorem c62.puts {nt:Nat} {g:Gh} {w:World}:∀{ps:List Nat} {xs:List V} {vs:List Value} {tmps:Array Value} {e:List (Nat×V)},c62 nt g w tmps e→tmps.size=nt→(∀p∈ps,p<nt)→xs.length=vs.length →
  (∀(i:Nat) (x:V),xs[i]?=some x→VR g w ((vs[i]?).getD undef) x) →
  c62 nt g w ((ps.zip vs).foldl (fun t (p,v)=>t.setIfInBounds p v) tmps) (b5k ps xs e)∧((ps.zip vs).foldl (fun t (p,v)=>t.setIfInBounds p v) tmps).size=nt
 | [],xs,vs,tmps,e,h,hs,_,_,_=>by cases xs<;>exact ⟨h,hs⟩
 | p::ps,[],[],tmps,e,h,hs,_,_,_=>⟨h,hs⟩
 | p::ps,x::xs,v::vs,tmps,e,h,hs,hp,hl,hv=>by
  simp only [b5k,List.zip_cons_cons,wO]
  refine c62.puts (fun s y hy=>?_) (by simp [hs]) (fun q hq=>hp q (xA _ hq)) (by simpa using hl) fun i y hy=>by simpa using hv (i+1) y (by simpa using hy)
  have hpn:=hp p xG
  rw [a10] at hy
  by_cases e1:s=p
  ·subst e1
   simp at hy;subst hy
   refine ⟨hpn,?_⟩
   have:s<tmps.size:=by omega
   simpa [zC,this] using hv 0 x rfl
  ·simp only [e1,if_false] at hy
   obtain ⟨h1,h2⟩:=h s y hy
   have hne:¬p=s:=fun e=>e1 e.symm
   exact ⟨h1,by simpa [zC,zA hne] using h2⟩
end Go.Ab