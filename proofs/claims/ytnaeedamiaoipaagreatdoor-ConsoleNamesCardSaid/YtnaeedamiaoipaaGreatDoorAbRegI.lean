/- The abstract layer, part 10b: regions in text order with notes between the operations. -/
import Derived.Test.YtnaeedamiaoipaaGreatDoorAbNote
set_option linter.all false
set_option linter.unusedSimpArgs false
set_option linter.unusedVariables false
namespace Go.Ab
open Go.RowKit
def subE:List (Nat×V)→List (Nat×V)→Prop
 | [],_=>True
 | (n,x)::r,env=>get n env=x∧subE r env
def subHp:Heap→Heap→Prop
 | [],_=>True
 | (n,o)::r,H=>find n H=some o∧subHp r H
def V.nav:V→Bool
 | .any=>false
 | _=>true
def noAny:List (Nat×V)→Bool
 | []=>true
 | (_,x)::r=>x.nav&&noAny r
def distinct {α:Type}:List (Nat×α)→Bool
 | []=>true
 | (n,_)::r=>(match find n r with|none=>true|some _=>false)&&distinct r
def St.good (τ:St):Bool:=noAny τ.env&&distinct τ.env&&distinct τ.heap
def SubSt (τ σ:St):Prop:=τ.good=true∧subE τ.env σ.env∧subHp τ.heap σ.heap
def factsSt (σ:St):Prop:=factsE σ.env∧factsH σ.heap
def stepNs (H0:Heap):List Note→St→(St→Prop)→Prop
 | [],σ,K=>K σ
 | n::r,σ,K=>stepNote H0 n σ fun σ'=>stepNs H0 r σ' K
theorem shqs_mono {K K':St→Prop} (hk:∀σ,K σ→K' σ):∀{l:List Nat} {σ:St},shqs l σ K→shqs l σ K'
 | [],_,h=>hk _ h
 | id::r,σ,h=>by
  simp only [shqs,shq1] at h ⊢
  split at h<;>first|exact ⟨h.1,h.2.1,shqs_mono hk h.2.2⟩|exact shqs_mono hk h|exact h.elim
theorem gcond {b:Bool} {p q:Prop} (h:p→q) (hp:bif b then p else False):bif b then q else False:=by
 cases b with
 | true=>exact h hp
 | false=>exact hp
theorem stepNote_mono {H0:Heap} {n:Note} {σ:St} {K K':St→Prop} (hk:∀σ,K σ→K' σ) (h:stepNote H0 n σ K):stepNote H0 n σ K':=by
 cases n<;>simp only [stepNote] at h ⊢
 case gc=>exact hk _ h
 case fact=>exact fun hf=>hk _ (h hf)
 case adq=>split at h<;>first|exact fun b=>hk _ (h b)|exact h.elim
 case toA=>split at h<;>first|exact gcond (hk _) h|exact h.elim
 case ofA=>split at h<;>first|exact ⟨h.1,hk _ h.2⟩|exact h.elim
 case nm =>
  split at h
  ·split at h
   ·exact gcond (hk _) h
   ·exact h.elim
  ·exact h.elim
 case bld id =>
  split at h
  ·rename_i x cs t hf
   cases hb:x.isB id with
   | true=>rw [hb] at h;exact hk _ h
   | false=>rw [hb] at h;exact h.elim
  ·exact h.elim
 case nl=>split at h<;>first|exact hk _ h|exact h.elim
 case ren=>exact gcond (hk _) h
 case renq j id =>
  cases hb:inHeap j σ.heap with
  | true=>rw [hb] at h;exact gcond (hk _) h
  | false=>rw [hb] at h;exact hk _ h
 case accA s off id k =>
  split at h
  ·split at h
   ·exact gcond (hk _) h
   ·rename_i j _ _ _ _
    cases hb:Nat.beq j id with
    | true=>rw [hb] at h;exact hk _ h
    | false=>rw [hb] at h;exact gcond (hk _) h
   ·exact h.elim
  ·exact h.elim
 case acc s id k =>
  split at h
  ·exact gcond (hk _) h
  ·rename_i j _ _ _ _
   cases hb:Nat.beq j id with
   | true=>rw [hb] at h;exact hk _ h
   | false=>rw [hb] at h;exact gcond (hk _) h
  ·exact h.elim
 case shut=>split at h<;>first|exact ⟨h.1,h.2.1,hk _ h.2.2⟩|exact hk _ h|exact h.elim
 case shq=>split at h<;>first|exact ⟨h.1,h.2.1,hk _ h.2.2⟩|exact hk _ h|exact h.elim
 case accC =>
  split at h
  ·split at h
   ·exact gcond (hk _) h
   ·exact h.elim
  ·exact h.elim
 case ownC id off id2 k ty =>
  split at h
  ·split at h
   ·exact gcond (hk _) h
   ·rename_i j _ _ _ _
    cases hb:Nat.beq j id2 with
    | true=>rw [hb] at h;exact hk _ h
    | false=>rw [hb] at h;exact gcond (hk _) h
   ·exact h.elim
  ·exact h.elim
 case fz =>
  split at h
  ·refine shqs_mono (fun σ' h'=>?_) h
   split at h'<;>first|exact hk _ h'|exact h'.elim
  ·exact hk _ h
 case fzc =>
  split at h
  ·split at h
   ·refine shqs_mono (fun σ' h'=>?_) h
    split at h'<;>first|exact hk _ h'|exact h'.elim
   ·exact h.elim
  ·exact h.elim
 case trim =>
  split at h
  ·split at h
   ·exact gcond (hk _) h
   ·exact h.elim
  ·exact hk _ h
theorem stepNs_mono {H0:Heap} {K K':St→Prop} (hk:∀σ,K σ→K' σ):∀{ns:List Note} {σ:St},stepNs H0 ns σ K→stepNs H0 ns σ K'
 | [],_,h=>hk _ h
 | n::r,σ,h=>stepNote_mono (n:=n) (fun σ' h'=>stepNs_mono hk h') h
inductive It where
 | op (m:MOp)
 | nt (n:Note)
 | grp (ms:List MOp)
def itsOps:List It→List MOp
 | []=>[]
 | .op m::r=>m::itsOps r
 | .nt _::r=>itsOps r
 | .grp ms::r=>ms++itsOps r
def runI (P:Program) (H0:Heap):List It→St→(St→Prop)→Prop
 | [],σ,K=>K σ
 | .op m::r,σ,K=>runOne P H0 m σ fun σ'=>runI P H0 r σ' K
 | .nt n::r,σ,K=>stepNote H0 n σ fun σ'=>runI P H0 r σ' K
 | .grp ms::r,σ,K=>Lk (∃(α:Type) (I:α→St) (p:α→Prop),runN P H0 ms σ (fun σ'=>Lk (∃y,p y∧SubSt (I y) σ'))∧∀y,p y→factsSt (I y)→runI P H0 r (I y) K)
section
variable {P:Program} {c:Ctx} {g:Gh} {σ:St} {a:Act} {w:World}
theorem subE_find {s:Nat} {x:V}:∀{τ env:List (Nat×V)},noAny τ=true→subE τ env→find s τ=some x→find s env=some x
 | (n,y)::r,env,hn,h,hf=>by
  simp only [noAny,Bool.and_eq_true] at hn
  simp only [subE] at h
  simp only [find] at hf
  cases hb:Nat.beq s n with
  | true =>
   rw [hb] at hf;cases hf
   have e:=Nat.eq_of_beq_eq_true hb;subst e
   have h1:=h.1
   rw [get_find] at h1
   cases hg:find s env with
   | none=>rw [hg] at h1;simp at h1;subst h1;simp [V.nav] at hn
   | some z=>rw [hg] at h1;simp at h1;rw [h1]
  | false=>rw [hb] at hf;exact subE_find hn.2 h.2 hf
theorem subHp_find {s:Nat} {x:Obj'}:∀{τ env:Heap},subHp τ env→find s τ=some x→find s env=some x
 | (n,y)::r,env,h,hf=>by
  simp only [subHp] at h
  simp only [find] at hf
  cases hb:Nat.beq s n with
  | true =>
   rw [hb] at hf;cases hf
   have e:=Nat.eq_of_beq_eq_true hb;subst e
   exact h.1
  | false=>rw [hb] at hf;exact subHp_find h.2 hf
theorem Rel.subSt {g:Gh} {σ τ:St} {a:Act} {w:World} (h:Rel P c g σ a w) (hs:SubSt τ σ):Rel P c g τ a w:=by
 obtain ⟨h1,h2,h3⟩:=hs
 simp only [St.good,Bool.and_eq_true] at h1
 exact h.sub (fun _ _ hx=>subE_find h1.1.1 h2 hx) fun _ _ hx=>subHp_find h3 hx
theorem distinct_find {α:Type} {n:Nat} {x:α}:∀{l:List (Nat×α)},distinct l=true→(n,x)∈l→find n l=some x
 | (m,y)::r,h,hm=>by
  simp only [distinct,Bool.and_eq_true] at h
  rcases List.mem_cons.1 hm with e|hm
  ·cases e;simp [find]
  ·have ih:=distinct_find h.2 hm
   have hb:Nat.beq n m=false:=by
    cases hb:Nat.beq n m with
    | true =>
     have e:=Nat.eq_of_beq_eq_true hb;subst e
     rw [ih] at h;simp at h
    | false=>rfl
   simp only [find,hb,cond_false];exact ih
theorem factsE_of:∀{env:List (Nat×V)},(∀s x,(s,x)∈env→x.fact)→factsE env
 | [],_=>trivial
 | (n,x)::r,h=>⟨h n x List.mem_cons_self,factsE_of fun s y hy=>h s y (List.mem_cons_of_mem _ hy)⟩
theorem factsH_of:∀{H:Heap},(∀s x,(s,x)∈H→x.fact)→factsH H
 | [],_=>trivial
 | (n,x)::r,h=>⟨h n x List.mem_cons_self,factsH_of fun s y hy=>h s y (List.mem_cons_of_mem _ hy)⟩
theorem Rel.factsSt {g:Gh} {σ:St} {a:Act} {w:World} (h:Rel P c g σ a w) (hg:σ.good=true):factsSt σ:=by
 simp only [St.good,Bool.and_eq_true] at hg
 exact ⟨factsE_of fun s x hx=>(h.env s x (distinct_find hg.1.2 hx)).2.fact,factsH_of fun s x hx=>(h.hp.obj s x (distinct_find hg.2 hx)).fact⟩
theorem ns_sound:∀{ns:List Note} {K:St→Prop} {g:Gh} {σ:St},stepNs c.H0 ns σ K→Rel P c g σ a w→∃g' σ',K σ'∧Rel P c g' σ' a w
 | [],K,g,σ,h,hR=>⟨g,σ,h,hR⟩
 | n::r,K,g,σ,h,hR=>by
  obtain ⟨g',σ',h',hR'⟩:=note_sound (n:=n) (K:=fun σ'=>stepNs c.H0 r σ' K) h hR
  exact ns_sound h' hR'
theorem runOne_sound {ops:Array Oper} {Q:Exit→Act→World→Prop} {K:St→Prop} {m:MOp} {r:List MOp} {i:Nat} {g:Gh} {σ:St} {a:Act} {w:World} (hok:mopsOK P c.nt ops (m::r) (ops.toList.drop i)=true) (hR:Rel P c g σ a w) (h:runOne P c.H0 m σ K)
  (ih:∀g σ a w,mopsOK P c.nt ops r (ops.toList.drop (i+1))=true→K σ→Rel P c g σ a w→wpOps P ops Q (List.range' (i+1) r.length) a w):wpOps P ops Q (List.range' i (m::r).length) a w:=by
 rw [List.length_cons,List.range'_succ,wpOps_cons]
 cases hd:ops.toList.drop i with
 | nil=>rw [hd] at hok;simp [mopsOK] at hok
 | cons o s =>
  rw [hd] at hok
  simp only [mopsOK,Bool.and_eq_true] at hok
  obtain ⟨hm,hr⟩:=hok
  have hi:ops[i]?=some o:=by
   have:(ops.toList.drop i)[0]?=some o:=by rw [hd];rfl
   rw [List.getElem?_drop,Nat.add_zero,Array.getElem?_toList] at this
   exact this
  have hs:ops.toList.drop (i+1)=s:=by
   have:=congrArg List.tail hd
   simpa using this
  rw [←hs] at hr
  have ih:=fun g σ a w=>ih g σ a w hr
  have hm':=hm
  simp only [MOp.ok,Bool.and_eq_true] at hm'
  obtain ⟨⟨_,h2⟩,h3⟩:=hm'
  obtain ⟨hdd,hlt⟩:=dstOK_inv h2
  simp only [wpOp,hi]
  simp only [runOne] at h
  cases hg:m.guard with
  | none =>
   rw [hg] at h h3
   simp only [guard_none h3,if_true]
   exact .inl (runIns_sound hm hR h fun eff he g' a' w' hR'=>ih g' _ a' w' he hR')
  | some p =>
   obtain ⟨t,want⟩:=p
   rw [hg] at h h3
   simp only at h
   split at h
   case h_3=>exact h.elim
   case h_2 hb =>
    rw [guard_tup h3 hR hb]
    simp only [Bool.false_eq_true,if_false]
    exact ih g _ _ w h (by rw [←hdd];exact hR.undef' hlt)
   rename_i b hb
   obtain ⟨hx,hy⟩:=h
   rw [guard_wanted h3 hR hb]
   have hf:=get_bool hb
   by_cases hbw:b=want
   ·subst hbw
    have hw:beqB b b=true:=by cases b<;>rfl
    simp only [hw,if_true]
    have hx:=hx rfl
    rw [put_same hf] at hx
    exact .inl (runIns_sound hm hR hx fun eff he g' a' w' hR'=>ih g' _ a' w' he hR')
   ·have hbn:b=(!want):=by cases b<;>cases want<;>first|rfl|exact absurd rfl hbw
    have hw:beqB b want=false:=by rw [hbn];cases want<;>rfl
    simp only [hw,Bool.false_eq_true,if_false]
    have hy:=hy hbn
    rw [←hbn,put_same hf] at hy
    exact ih g _ _ w hy (by rw [←hdd];exact hR.undef' hlt)
theorem runNr_sound {ops:Array Oper} {Q:Exit→Act→World→Prop} {K:St→Prop} {rest:List MOp} :
  ∀(ms:List MOp) (i:Nat) (g:Gh) (σ:St) (a:Act) (w:World),mopsOK P c.nt ops (ms++rest) (ops.toList.drop i)=true→Rel P c g σ a w→runN P c.H0 ms σ K →
  (∀σ' g' a' w',K σ'→mopsOK P c.nt ops rest (ops.toList.drop (i+ms.length))=true→Rel P c g' σ' a' w'→wpOps P ops Q (List.range' (i+ms.length) rest.length) a' w')→wpOps P ops Q (List.range' i (ms++rest).length) a w
 | [],i,g,σ,a,w,hok,hR,h,hK=>hK σ g a w h hok hR
 | m::r,i,g,σ,a,w,hok,hR,h,hK=>by
  refine runOne_sound (K:=fun σ'=>runN P c.H0 r σ' K) hok hR h fun g σ a w hok' h' hR'=>?_
  refine runNr_sound r (i+1) g σ a w hok' hR' h' fun σ' g' a' w' k1 k2 k3=>?_
  have e:i+(m::r).length=i+1+r.length:=by simp;omega
  have:=hK σ' g' a' w' k1 (by rw [e];exact k2) k3
  rwa [e] at this
theorem runI_sound {ops:Array Oper} {Q:Exit→Act→World→Prop} {K:St→Prop} (hK:∀σ' g' a' w',K σ'→Rel P c g' σ' a' w'→Q .normal a' w') :
  ∀(ms:List It) (i:Nat) (g:Gh) (σ:St) (a:Act) (w:World),mopsOK P c.nt ops (itsOps ms) (ops.toList.drop i)=true→Rel P c g σ a w→runI P c.H0 ms σ K→wpOps P ops Q (List.range' i (itsOps ms).length) a w
 | [],i,g,σ,a,w,_,hR,h=>hK σ g a w h hR
 | .nt n::r,i,g,σ,a,w,hok,hR,h=>by
  obtain ⟨g',σ',h',hR'⟩:=note_sound (n:=n) (K:=fun σ'=>runI P c.H0 r σ' K) h hR
  exact runI_sound hK r i g' σ' a w hok hR' h'
 | .op m::r,i,g,σ,a,w,hok,hR,h =>
  runOne_sound (K:=fun σ'=>runI P c.H0 r σ' K) hok hR h fun g σ a w hok' h' hR'=>runI_sound hK r (i+1) g σ a w hok' hR' h'
 | .grp ms::r,i,g,σ,a,w,hok,hR,h=>by
  obtain ⟨α,I,p,h1,h2⟩:=Lk.out h
  refine runNr_sound ms i g σ a w hok hR h1 fun σ' g' a' w' k1 k2 k3=>?_
  obtain ⟨y,hy,hs⟩:=Lk.out k1
  have hr':=k3.subSt hs
  exact runI_sound hK r _ g' (I y) a' w' k2 hr' (h2 y hy (hr'.factsSt hs.1))
theorem regionI_ops {ops:Array Oper} {ms:List It} {Q:Exit→Act→World→Prop} {K:St→Prop} (hK:∀σ' g' a' w',K σ'→Rel P c g' σ' a' w'→Q .normal a' w')
  (hok:mopsOK P c.nt ops (itsOps ms) ops.toList=true) (hR:Rel P c g σ a w) (h:runI P c.H0 ms σ K):wpOps P ops Q (List.range ops.size) a w:=by
 have hl:∀{ms:List MOp} {l:List Oper},mopsOK P c.nt ops ms l=true→ms.length=l.length:=by
  intro ms
  induction ms with
  | nil =>
   intro l h
   cases l with
   | nil=>rfl
   | cons o s=>cases h
  | cons m r ih =>
   intro l h
   cases l with
   | nil=>cases h
   | cons o s =>
    simp only [mopsOK,Bool.and_eq_true] at h
    simp only [List.length_cons,ih h.2]
 have:=runI_sound hK ms 0 g σ a w (by rw [List.drop_zero];exact hok) hR h
 rw [hl hok,Array.length_toList] at this
 rwa [List.range_eq_range']
end
end Go.Ab
