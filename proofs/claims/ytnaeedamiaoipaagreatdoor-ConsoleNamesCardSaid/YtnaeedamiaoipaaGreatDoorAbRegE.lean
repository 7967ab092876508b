/- The abstract layer, part 16: regions that draw their order are sound. -/
import Derived.Test.YtnaeedamiaoipaaGreatDoorAbRegD
set_option linter.all false
set_option linter.unusedSimpArgs false
set_option linter.unusedVariables false
namespace Go.Ab
open Go.RowKit
structure Ent where
 dst:Option Nat
 eff:Option Eff
 uses:List Nat
 touch:List Nat
 made:List Nat
def Ent.app (e:Ent) (σ:St):St :=
 match e.eff with
 | some f=>σ.app e.dst f
 | none=>⟨delE e.dst σ.env,σ.heap⟩
def Ent.ids (e:Ent):List Nat :=
 match e.eff with
 | some f=>f.ids
 | none=>[]
def slotsOf:List Opd→List Nat
 | []=>[]
 | .t n::r=>n::slotsOf r
 | _::r=>slotsOf r
def insD (P:Program) (H0:Heap) (m:MOp) (σ:St) (gs:List Nat) (k:Ent→Prop):Prop :=
 bif cleanL H0 σ (m.ins.creates m.d) then
  stepD P m.ins m.d (m.ins.opds.map (·.ev σ.env)) (obOf σ.heap) (fun f=>k ⟨m.dst,some f,gs++slotsOf m.ins.opds,m.ins.touch (m.ins.opds.map (·.ev σ.env)),m.ins.creates m.d⟩)
   (fun f=>k ⟨m.dst,some f,gs++slotsOf m.ins.opds,m.ins.touch (m.ins.opds.map (·.ev σ.env)),m.ins.creates m.d⟩)
 else False
def runD (P:Program) (H0:Heap):List MOp→List Ent→St→(List Ent→St→Prop)→Prop
 | [],log,σ,K=>K log σ
 | m :: r,log,σ,K =>
  match m.guard with
  | none=>insD P H0 m σ [] fun e=>runD P H0 r (e::log) (e.app σ) K
  | some (s,want) =>
   match get s σ.env with
   | .bool b=>gfork b want (insD P H0 m ⟨put s (.bool want) σ.env,σ.heap⟩ [s] fun e=>runD P H0 r (e::log) (e.app ⟨put s (.bool want) σ.env,σ.heap⟩) K)
     (runD P H0 r (⟨m.dst,none,[s],[],[]⟩::log) (Ent.app ⟨m.dst,none,[s],[],[]⟩ ⟨put s (.bool (!want)) σ.env,σ.heap⟩) K)
   | .tup []=>runD P H0 r (⟨m.dst,none,[s],[],[]⟩::log) (Ent.app ⟨m.dst,none,[s],[],[]⟩ σ) K
   | _=>False
def noMen (x:Ent):List Nat→Bool
 | []=>true
 | n::r=>(match x.eff with|some f=>!f.val.has n&&noHeap n f.new|none=>true)&&noMen x r
def disj:List Nat→List Nat→Bool
 | [],_=>true
 | n::r,l=>!mem n l&&disj r l
def oneOf (d:Option Nat) (l:List Nat):Bool :=
 match d with
 | some n=>mem n l
 | none=>false
def apart (x y:Ent):Bool :=
 !oneOf x.dst y.uses&&!oneOf y.dst x.uses&&(match x.dst,y.dst with|some a,some b=>!Nat.beq a b|_,_=>true)&&disj x.ids y.touch&&disj y.ids x.touch&&disj x.ids y.ids
def loneN (i d:Nat):List Ent→Nat
 | []=>0
 | z::r=>(bif mem i z.ids||mem d z.ids then 1 else 0)+loneN i d r
def late (r:List Ent) (x y:Ent):Bool :=
 !oneOf x.dst y.uses&&!oneOf y.dst x.uses&&(match x.dst,y.dst with|some a,some b=>!Nat.beq a b|_,_=>true)&&disj x.ids y.touch&&disj x.ids y.ids &&
  match y.eff with
  | some f=>match f.drop,f.new with
   | [i],[(d,_)]=>!mem d x.touch&&Nat.ble (loneN i d r) 1&&!Nat.beq i d
   | _,_=>false
  | none=>false
def pairOK (ord lat:Bool) (r:List Ent) (x y:Ent):Bool:=noMen x y.made&&(ord||((apart x y||(lat&&late r x y))&&noMen y x.made))
def chkOne (i:Nat) (x:Ent) (all:List Ent):List (List Nat)→List Ent→Bool
 | _,[]=>true
 | a::anc,y::r=>pairOK (Nat.blt i 1000000&&mem i a) (mem (1000000+i) a) all x y&&chkOne i x all anc r
 | [],_::_=>false
def chkAll (H0:Heap) (σ:St):Nat→List (List Nat)→List Ent→Bool
 | _,_,[]=>true
 | i,_::anc,x::r=>cleanL H0 σ x.made&&chkOne i x r anc r&&chkAll H0 σ (i+1) anc r
 | _,[],_::_=>false
def MIns.isLd:MIns→Bool
 | .ld ..=>true
 | _=>false
def MIns.isApp:MIns→Bool
 | .app ..=>true
 | _=>false
def lateRow (all:List MOp) (m:MOp):List Nat→Bool
 | []=>true
 | x::r=>(Nat.blt x 1000000||(m.ins.isApp&&(match all[x - 1000000]? with|some l=>l.ins.isLd|none=>false)))&&lateRow all m r
def lateOK (all:List MOp):List MOp→List (List Nat)→Bool
 | m::r,a::s=>lateRow all m a&&lateOK all r s
 | _,_=>true
def ancRow (aft:List Nat) (anc:List (List Nat)):List Nat→Bool
 | []=>true
 | k::r=>(Nat.ble 1000000 k||mem k aft||aft.any fun l=>mem k (anc.getD l []))&&ancRow aft anc r
def below (j:Nat):List Nat→Bool
 | []=>true
 | k::r=>Nat.blt k j&&below j r
def ancOK (all:List (List Nat)):Nat→List (List Nat)→List (List Nat)→Bool
 | _,[],[]=>true
 | j,a::aft,b::anc=>below j a&&ancRow a all b&&ancOK all (j+1) aft anc
 | _,_,_=>false
def natsEq:List Nat→List Nat→Bool
 | [],[]=>true
 | a::r,b::s=>Nat.beq a b&&natsEq r s
 | _,_=>false
def aftOK:List (List Nat)→List Oper→Bool
 | [],[]=>true
 | a::r,o::s=>natsEq a ((o.after.toList.filter (Region.binds .any)).map (·.on))&&aftOK r s
 | _,_=>false
def Ran (P:Program) (H0:Heap) (m:MOp) (e:Ent) (σ:St) (gs:List Nat):Prop :=
 ∃f,e.eff=some f∧stepV P m.ins m.d (m.ins.opds.map (·.ev σ.env)) (obOf σ.heap) (fun u=>u=f) (fun u=>u=f)∧e.uses=gs++slotsOf m.ins.opds ∧
  e.touch=m.ins.touch (m.ins.opds.map (·.ev σ.env))∧e.made=m.ins.creates m.d
def Ev (P:Program) (H0:Heap) (m:MOp) (e:Ent) (σ:St):Prop :=
 e.dst=m.dst∧((m.guard=none∧Ran P H0 m e σ [])∨(∃s want b,m.guard=some (s,want)∧get s σ.env=.bool b∧s∈e.uses∧((b=want∧Ran P H0 m e σ [s])∨(b=(!want)∧e.eff=none)))∨∃s want,m.guard=some (s,want)∧get s σ.env=.tup []∧s∈e.uses∧e.eff=none)
def Evs (P:Program) (H0:Heap):List MOp→List Ent→St→Prop
 | [],[],_=>True
 | m::r,e::s,σ=>Ev P H0 m e σ∧Evs P H0 r s (e.app σ)
 | _,_,_=>False
def foldA:List Ent→St→St
 | [],σ=>σ
 | e::r,σ=>foldA r (e.app σ)
theorem insD_ran {P:Program} {H0:Heap} {m:MOp} {σ:St} {gs:List Nat} {k:Ent→Prop} (h:insD P H0 m σ gs k):∃e,e.dst=m.dst∧Ran P H0 m e σ gs∧k e:=by
 unfold insD at h
 cases hc:cleanL H0 σ (m.ins.creates m.d) with
 | false=>rw [hc] at h;exact h.elim
 | true =>
  rw [hc] at h
  simp only [cond_true] at h
  obtain ⟨f,h1,h2⟩:=step_atom h
  exact ⟨_,rfl,⟨f,rfl,h2,rfl,rfl,rfl⟩,h1.elim id id⟩
theorem runD_evs {P:Program} {H0:Heap} {K:List Ent→St→Prop}:∀{ms:List MOp} {log:List Ent} {σ:St},runD P H0 ms log σ K→∃es,Evs P H0 ms es σ∧K (es.reverse++log) (foldA es σ)
 | [],log,σ,h=>⟨[],trivial,by simpa [foldA,runD] using h⟩
 | m::r,log,σ,h=>by
  simp only [runD] at h
  cases hg:m.guard with
  | none =>
   rw [hg] at h
   obtain ⟨e,h1,h2,h3⟩:=insD_ran h
   obtain ⟨es,h4,h5⟩:=runD_evs h3
   exact ⟨e::es,⟨⟨h1,.inl ⟨hg,h2⟩⟩,h4⟩,by simpa [foldA] using h5⟩
  | some p =>
   obtain ⟨s,want⟩:=p
   rw [hg] at h
   simp only at h
   split at h
   case h_3=>exact h.elim
   case h_2 hb =>
    obtain ⟨es,h4,h5⟩:=runD_evs h
    exact ⟨_::es,⟨⟨rfl,.inr (.inr ⟨s,want,hg,hb,by simp,rfl⟩)⟩,h4⟩,by simpa [foldA] using h5⟩
   rename_i b hb
   obtain ⟨hx,hy⟩:=h
   have hf:=get_bool hb
   by_cases hbw:b=want
   ·subst hbw
    have hx:=hx rfl
    rw [put_same hf] at hx
    obtain ⟨e,h1,h2,h3⟩:=insD_ran hx
    obtain ⟨es,h4,h5⟩:=runD_evs h3
    obtain ⟨f,k1,k2,k3,k4,k5⟩:=h2
    exact ⟨e::es,⟨⟨h1,.inr (.inl ⟨s,b,b,hg,hb,by rw [k3];simp,.inl ⟨rfl,f,k1,k2,k3,k4,k5⟩⟩)⟩,h4⟩,by simpa [foldA] using h5⟩
   ·have hbn:b=(!want):=by cases b<;>cases want<;>first|rfl|exact absurd rfl hbw
    have hy:=hy hbn
    rw [←hbn,put_same hf] at hy
    obtain ⟨es,h4,h5⟩:=runD_evs hy
    exact ⟨_::es,⟨⟨rfl,.inr (.inl ⟨s,want,b,hg,hb,by simp,.inr ⟨hbn,rfl⟩⟩)⟩,h4⟩,by simpa [foldA] using h5⟩
def fold (E:Nat→Bool):Nat→List Ent→St→St
 | _,[],σ=>σ
 | i,e::r,σ=>fold E (i+1) r (bif E i then e.app σ else σ)
def Ent.wr (e:Ent) (s:Nat):Prop:=e.dst=some s
theorem app_env {e:Ent} {σ:St} {s:Nat}:find s (e.app σ).env=if e.dst=some s then (match e.eff with|some f=>some f.val|none=>some (.tup [])) else find s σ.env:=by
 unfold Ent.app
 cases he:e.eff with
 | some f =>
  cases hd:e.dst with
  | none=>simp [St.app,setE]
  | some d =>
   simp only [St.app,setE,find_put,Option.some.injEq]
   by_cases h:s=d
   ·simp [h]
   ·have:¬d=s:=fun e=>h e.symm
    simp [h,this]
 | none =>
  cases hd:e.dst with
  | none=>simp [delE]
  | some d =>
   simp only [delE,find_put,Option.some.injEq]
   by_cases h:s=d
   ·simp [h]
   ·have:¬d=s:=fun e=>h e.symm
    simp [h,this]
theorem puts_congr {n:Nat}:∀{l:List (Nat×Obj')} {H H':Heap},(find n H=find n H'∨∃o,(n,o)∈l)→find n (puts l H)=find n (puts l H')
 | [],H,H',h=>by
  rcases h with h|⟨o,h⟩
  ·exact h
  ·cases h
 | (m,o)::r,H,H',h=>by
  simp only [puts]
  refine puts_congr ?_
  rw [find_put,find_put]
  by_cases e:n=m
  ·exact .inl (by simp [e])
  ·rcases h with h|⟨o',h⟩
   ·exact .inl (by simp [e,h])
   ·rcases List.mem_cons.1 h with h|h
    ·cases h;exact absurd rfl e
    ·exact .inr ⟨o',h⟩
theorem eff_heap_in {f:Eff} {n:Nat} {H H':Heap} (h:n∈f.ids):find n (f.heap H)=find n (f.heap H'):=by
 unfold Eff.heap
 refine puts_congr ?_
 simp only [Eff.ids,List.mem_append,List.mem_map] at h
 rcases h with h|⟨p,hp,rfl⟩
 ·exact .inl (by rw [find_dels,find_dels];simp [h])
 ·exact .inr ⟨p.2,hp⟩
theorem eff_heap_out {f:Eff} {n:Nat} {H:Heap} (h:n∉f.ids):find n (f.heap H)=find n H:=by
 unfold Eff.heap
 simp only [Eff.ids,List.mem_append,List.mem_map,not_or,not_exists,not_and] at h
 rw [find_puts_not (fun o ho=>h.2 (n,o) ho rfl),find_dels]
 simp [h.1]
theorem app_heap_in {e:Ent} {σ τ:St} {n:Nat} (h:n∈e.ids):find n (e.app σ).heap=find n (e.app τ).heap:=by
 unfold Ent.app
 cases he:e.eff with
 | some f=>exact eff_heap_in (by simpa [Ent.ids,he] using h)
 | none=>simp [Ent.ids,he] at h
theorem app_heap_out {e:Ent} {σ:St} {n:Nat} (h:n∉e.ids):find n (e.app σ).heap=find n σ.heap:=by
 unfold Ent.app
 cases he:e.eff with
 | some f=>exact eff_heap_out (by simpa [Ent.ids,he] using h)
 | none=>rfl
theorem fold_env {E E':Nat→Bool} {s:Nat}:∀{es:List Ent} {i:Nat} {σ τ:St},find s σ.env=find s τ.env→(∀k e,es[k]?=some e→E (i+k)≠E' (i+k)→e.dst≠some s) →
  find s (fold E i es σ).env=find s (fold E' i es τ).env
 | [],i,σ,τ,h,_=>h
 | e::r,i,σ,τ,h,hk=>by
  simp only [fold]
  refine fold_env ?_ fun k e' hk' hne=>hk (k+1) e' (by simpa using hk') (by rw [show i+(k+1)=i+1+k from by omega];exact hne)
  have h0:=hk 0 e rfl
  rw [Nat.add_zero] at h0
  cases hE:E i<;>cases hE':E' i<;>simp only [cond_true,cond_false]
  ·exact h
  ·rw [app_env,if_neg (h0 (by simp [hE,hE']))];exact h
  ·rw [app_env,if_neg (h0 (by simp [hE,hE']))];exact h
  ·rw [app_env,app_env,h]
theorem fold_heap {E E':Nat→Bool} {n:Nat}:∀{es:List Ent} {i:Nat} {σ τ:St},find n σ.heap=find n τ.heap→(∀k e,es[k]?=some e→E (i+k)≠E' (i+k)→n∉e.ids) →
  find n (fold E i es σ).heap=find n (fold E' i es τ).heap
 | [],i,σ,τ,h,_=>h
 | e::r,i,σ,τ,h,hk=>by
  simp only [fold]
  refine fold_heap ?_ fun k e' hk' hne=>hk (k+1) e' (by simpa using hk') (by rw [show i+(k+1)=i+1+k from by omega];exact hne)
  have h0:=hk 0 e rfl
  rw [Nat.add_zero] at h0
  cases hE:E i<;>cases hE':E' i<;>simp only [cond_true,cond_false]
  ·exact h
  ·rw [app_heap_out (h0 (by simp [hE,hE']))];exact h
  ·rw [app_heap_out (h0 (by simp [hE,hE']))];exact h
  ·by_cases hm:n∈e.ids
   ·exact app_heap_in hm
   ·rw [app_heap_out hm,app_heap_out hm];exact h
theorem fold_env_last {E:Nat→Bool} {s j:Nat} {e:Ent}:∀{es:List Ent} {i:Nat} {σ τ:St},es[j]?=some e→E (i+j)=true→e.dst=some s→(∀k e',es[k]?=some e'→j<k→E (i+k)=true→e'.dst≠some s) →
  find s (fold E i es σ).env=find s (e.app τ).env
 | [],i,σ,τ,h,_,_,_=>by simp at h
 | e0::r,i,σ,τ,h,hE,hd,hk=>by
  simp only [fold]
  cases j with
  | zero =>
   simp at h;subst h
   rw [Nat.add_zero] at hE
   rw [hE,cond_true]
   have:find s (fold E (i+1) r (e0.app σ)).env=find s (fold (fun _=>false) (i+1) r (e0.app σ)).env :=
    fold_env rfl fun k e' hk' hne=>hk (k+1) e' (by simpa using hk') (by omega) (by rw [show i+(k+1)=i+1+k from by omega];simpa using hne)
   rw [this]
   have none':∀(l:List Ent) (i:Nat) (σ:St),fold (fun _=>false) i l σ=σ:=by
    intro l
    induction l with
    | nil=>intro i σ;rfl
    | cons a l ih=>intro i σ;simp only [fold,cond_false];exact ih _ _
   rw [none',app_env,app_env,if_pos hd,if_pos hd]
  | succ j =>
   exact fold_env_last (by simpa using h) (by rw [show i+1+j=i+(j+1) from by omega];exact hE) hd fun k e' hk' hlt he=>hk (k+1) e' (by simpa using hk') (by omega) (by rw [show i+(k+1)=i+1+k from by omega];exact he)
theorem fold_heap_last {E:Nat→Bool} {n j:Nat} {e:Ent}:∀{es:List Ent} {i:Nat} {σ τ:St},es[j]?=some e→E (i+j)=true→n∈e.ids→(∀k e',es[k]?=some e'→j<k→E (i+k)=true→n∉e'.ids) →
  find n (fold E i es σ).heap=find n (e.app τ).heap
 | [],i,σ,τ,h,_,_,_=>by simp at h
 | e0::r,i,σ,τ,h,hE,hd,hk=>by
  simp only [fold]
  cases j with
  | zero =>
   simp at h;subst h
   rw [Nat.add_zero] at hE
   rw [hE,cond_true]
   have:find n (fold E (i+1) r (e0.app σ)).heap=find n (fold (fun _=>false) (i+1) r (e0.app σ)).heap :=
    fold_heap rfl fun k e' hk' hne=>hk (k+1) e' (by simpa using hk') (by omega) (by rw [show i+(k+1)=i+1+k from by omega];simpa using hne)
   rw [this]
   have none':∀(l:List Ent) (i:Nat) (σ:St),fold (fun _=>false) i l σ=σ:=by
    intro l
    induction l with
    | nil=>intro i σ;rfl
    | cons a l ih=>intro i σ;simp only [fold,cond_false];exact ih _ _
   rw [none']
   exact app_heap_in hd
  | succ j =>
   exact fold_heap_last (by simpa using h) (by rw [show i+1+j=i+(j+1) from by omega];exact hE) hd fun k e' hk' hlt he=>hk (k+1) e' (by simpa using hk') (by omega) (by rw [show i+(k+1)=i+1+k from by omega];exact he)
theorem fold_all:∀{es:List Ent} {E:Nat→Bool} {i:Nat} {σ:St},(∀k,k<es.length→E (i+k)=true)→fold E i es σ=foldA es σ
 | [],_,_,_,_=>rfl
 | e::r,E,i,σ,h=>by
  have h0:=h 0 (by simp)
  rw [Nat.add_zero] at h0
  simp only [fold,foldA,h0,cond_true]
  exact fold_all fun k hk=>by
   have:=h (k+1) (by simpa using hk)
   rw [show i+(k+1)=i+1+k from by omega] at this;exact this
theorem fold_none:∀{es:List Ent} {E:Nat→Bool} {i:Nat} {σ:St},(∀k,E (i+k)=false)→fold E i es σ=σ
 | [],_,_,_,_=>rfl
 | e::r,E,i,σ,h=>by
  have h0:=h 0
  rw [Nat.add_zero] at h0
  simp only [fold,h0,cond_false]
  exact fold_none fun k=>by
   have:=h (k+1)
   rw [show i+(k+1)=i+1+k from by omega] at this;exact this
theorem blt_iff {a b:Nat}:Nat.blt a b=true↔a<b:=by
 unfold Nat.blt;exact ⟨Nat.le_of_ble_eq_true,Nat.ble_eq_true_of_le⟩
theorem evs_at {P:Program} {H0:Heap}:∀{ms:List MOp} {es:List Ent} {i k:Nat} {σ:St} {m:MOp} {e:Ent},Evs P H0 ms es σ→ms[k]?=some m→es[k]?=some e→Ev P H0 m e (fold (fun j=>decide (j<i+k)) i es σ)
 | [],[],_,k,_,_,_,_,h,_=>by simp at h
 | m0::r,e0::s,i,0,σ,m,e,h,hm,he=>by
  simp at hm he;subst hm;subst he
  rw [fold_none (fun k=>by simp)]
  exact h.1
 | m0::r,e0::s,i,k+1,σ,m,e,h,hm,he=>by
  have ih:=evs_at (i:=i+1) (k:=k) h.2 (by simpa using hm) (by simpa using he)
  have hE:decide (i<i+(k+1))=true:=by simp
  simp only [fold,hE,cond_true]
  rw [show i+(k+1)=i+1+k from by omega]
  exact ih
 | [],_::_,_,_,_,_,_,h,_,_=>h.elim
 | _::_,[],_,_,_,_,_,h,_,_=>h.elim
theorem evs_len {P:Program} {H0:Heap}:∀{ms:List MOp} {es:List Ent} {σ:St},Evs P H0 ms es σ→es.length=ms.length
 | [],[],_,_=>rfl
 | _::_,_::_,_,h=>by simp [evs_len h.2]
 | [],_::_,_,h=>h.elim
 | _::_,[],_,h=>h.elim
theorem disj_inv {l q:List Nat} (h:disj l q=true) {n:Nat} (h1:n∈l) (h2:n∈q):False:=by
 induction l with
 | nil=>cases h1
 | cons m r ih =>
  simp only [disj,Bool.and_eq_true,Bool.not_eq_true'] at h
  rcases List.mem_cons.1 h1 with rfl|h1
  ·have:=mem_iff.2 h2;rw [h.1] at this;cases this
  ·exact ih h.2 h1
structure Apart (x y:Ent):Prop where
 du:∀d,x.dst=some d→d∉y.uses
 ud:∀d,y.dst=some d→d∉x.uses
 dd:∀d,x.dst=some d→y.dst≠some d
 it:∀n,n∈x.ids→n∉y.touch
 ti:∀n,n∈y.ids→n∉x.touch
 ii:∀n,n∈x.ids→n∉y.ids
theorem apart_inv {x y:Ent} (h:apart x y=true):Apart x y:=by
 simp only [apart,Bool.and_eq_true,Bool.not_eq_true'] at h
 obtain ⟨⟨⟨⟨⟨h1,h2⟩,h3⟩,h4⟩,h5⟩,h6⟩:=h
 refine ⟨fun d hd hm=>?_,fun d hd hm=>?_,fun d hd he=>?_,fun n a b=>disj_inv h4 a b,fun n a b=>disj_inv h5 a b,fun n a b=>disj_inv h6 a b⟩
 ·rw [hd] at h1;simp only [oneOf] at h1;rw [mem_iff.2 hm] at h1;cases h1
 ·rw [hd] at h2;simp only [oneOf] at h2;rw [mem_iff.2 hm] at h2;cases h2
 ·rw [hd,he] at h3;simp at h3
theorem Apart.symm {x y:Ent} (h:Apart x y):Apart y x :=
 ⟨h.ud,h.du,fun d h1 h2=>h.dd d h2 h1,h.ti,h.it,fun n h1 h2=>h.ii n h2 h1⟩
structure Apart0 (x y:Ent):Prop where
 du:∀d,x.dst=some d→d∉y.uses
 ud:∀d,y.dst=some d→d∉x.uses
 dd:∀d,x.dst=some d→y.dst≠some d
 ii:∀n,n∈x.ids→n∉y.ids
theorem Apart.a0 {x y:Ent} (h:Apart x y):Apart0 x y:=⟨h.du,h.ud,h.dd,h.ii⟩
theorem Apart0.symm {x y:Ent} (h:Apart0 x y):Apart0 y x:=⟨h.ud,h.du,fun d h1 h2=>h.dd d h2 h1,fun n h1 h2=>h.ii n h2 h1⟩
theorem late_inv {r:List Ent} {x y:Ent} (h:late r x y=true):Apart0 x y∧(∀n,n∈x.ids→n∉y.touch)∧∃v i d o,y.eff=some ⟨v,[i],[(d,o)]⟩∧d∉x.touch∧loneN i d r≤1∧i≠d:=by
 simp only [late,Bool.and_eq_true,Bool.not_eq_true'] at h
 obtain ⟨⟨⟨⟨⟨h1,h2⟩,h3⟩,h4⟩,h5⟩,h6⟩:=h
 refine ⟨⟨fun d hd hm=>?_,fun d hd hm=>?_,fun d hd he=>?_,fun n a b=>disj_inv h5 a b⟩,fun n a b=>disj_inv h4 a b,?_⟩
 ·rw [hd] at h1;simp only [oneOf] at h1;rw [mem_iff.2 hm] at h1;cases h1
 ·rw [hd] at h2;simp only [oneOf] at h2;rw [mem_iff.2 hm] at h2;cases h2
 ·simp only [hd,he] at h3;simp at h3
 ·split at h6
  ·rename_i f hf
   obtain ⟨v,dr,nw⟩:=f
   simp only at h6
   split at h6
   ·rename_i i d o
    simp only [Bool.and_eq_true,Bool.not_eq_true'] at h6
    refine ⟨v,_,_,_,hf,fun hm=>?_,Nat.le_of_ble_eq_true h6.1.2,fun he=>?_⟩
    ·have:=mem_iff.2 hm
     rw [h6.1.1] at this;cases this
    ·rw [he] at h6;simp at h6
   ·cases h6
  ·cases h6
theorem loneN_at {i d:Nat}:∀{r:List Ent} {j:Nat} {x:Ent},r[j]?=some x→(i∈x.ids∨d∈x.ids)→1≤loneN i d r
 | [],_,_,h,_=>by simp at h
 | z::r,0,x,h,hm=>by
  simp at h;subst h
  have:(mem i z.ids||mem d z.ids)=true:=by
   rcases hm with hm|hm
   ·simp [mem_iff.2 hm]
   ·simp [mem_iff.2 hm]
  simp only [loneN,this,cond_true];omega
 | z::r,j+1,x,h,hm=>by
  have:=loneN_at (r:=r) (j:=j) (by simpa using h) hm
  simp only [loneN];omega
theorem loneN_one {i d:Nat}:∀{r:List Ent} {j k:Nat} {x y:Ent},loneN i d r≤1→r[j]?=some x→r[k]?=some y→(i∈x.ids∨d∈x.ids)→(i∈y.ids∨d∈y.ids)→j=k
 | [],_,_,_,_,_,h,_,_,_=>by simp at h
 | z::r,0,0,_,_,_,_,_,_,_=>rfl
 | z::r,0,k+1,x,y,hl,hx,hy,h1,h2=>by
  exfalso
  simp at hx;subst hx
  have a:=loneN_at (r:=r) (j:=k) (by simpa using hy) h2
  have b:(mem i z.ids||mem d z.ids)=true:=by
   rcases h1 with hm|hm
   ·simp [mem_iff.2 hm]
   ·simp [mem_iff.2 hm]
  simp only [loneN,b,cond_true] at hl;omega
 | z::r,j+1,0,x,y,hl,hx,hy,h1,h2=>by
  exfalso
  simp at hy;subst hy
  have a:=loneN_at (r:=r) (j:=j) (by simpa using hx) h1
  have b:(mem i z.ids||mem d z.ids)=true:=by
   rcases h2 with hm|hm
   ·simp [mem_iff.2 hm]
   ·simp [mem_iff.2 hm]
  simp only [loneN,b,cond_true] at hl;omega
 | z::r,j+1,k+1,x,y,hl,hx,hy,h1,h2=>by
  simp only [loneN] at hl
  have:j=k:=loneN_one (r:=r) (j:=j) (k:=k) (x:=x) (y:=y) (by omega) (by simpa using hx) (by simpa using hy) h1 h2
  rw [this]
theorem lateRow_inv {all:List MOp} {m:MOp} {l:Nat}:∀{r:List Nat},lateRow all m r=true→mem (1000000+l) r=true→m.ins.isApp=true∧∃q,all[l]?=some q∧q.ins.isLd=true
 | [],_,h=>by simp [mem] at h
 | x::r,h,hm=>by
  simp only [lateRow,Bool.and_eq_true] at h
  rcases List.mem_cons.1 (mem_iff.1 hm) with e|hm
  ·subst e
   have hb:Nat.blt (1000000+l) 1000000=false:=by
    cases hb:Nat.blt (1000000+l) 1000000 with
    | false=>rfl
    | true=>have:=blt_iff.1 hb;omega
   have h1:=h.1
   rw [hb,Bool.false_or,Bool.and_eq_true] at h1
   refine ⟨h1.1,?_⟩
   have e:1000000+l - 1000000=l:=by omega
   rw [e] at h1
   cases hq:all[l]? with
   | none=>rw [hq] at h1;cases h1.2
   | some q=>rw [hq] at h1;exact ⟨q,rfl,h1.2⟩
  ·exact lateRow_inv h.2 (mem_iff.2 hm)
theorem lateOK_at {all:List MOp} {l:Nat}:∀{ms:List MOp} {anc:List (List Nat)} {k:Nat} {a:List Nat} {m:MOp},lateOK all ms anc=true→anc[k]?=some a→ms[k]?=some m→mem (1000000+l) a=true→m.ins.isApp=true∧∃q,all[l]?=some q∧q.ins.isLd=true
 | [],_,_,_,_,_,_,h,_=>by simp at h
 | _::_,[],_,_,_,_,h,_,_=>by simp at h
 | m0::r,a0::s,0,a,m,h,ha,hm,hl=>by
  simp only [lateOK,Bool.and_eq_true] at h
  simp at ha hm;subst ha;subst hm
  exact lateRow_inv h.1 hl
 | m0::r,a0::s,k+1,a,m,h,ha,hm,hl=>by
  simp only [lateOK,Bool.and_eq_true] at h
  exact lateOK_at h.2 (by simpa using ha) (by simpa using hm) hl
def NoMen (x:Ent) (l:List Nat):Prop:=∀n∈l,∀f,x.eff=some f→f.val.has n=false∧noHeap n f.new=true
theorem noMen_inv {x:Ent}:∀{l:List Nat},noMen x l=true→NoMen x l
 | [],_,n,hn=>by cases hn
 | m::r,h,n,hn=>by
  simp only [noMen,Bool.and_eq_true] at h
  rcases List.mem_cons.1 hn with rfl|hn
  ·intro f hf
   rw [hf] at h
   simp only [Bool.and_eq_true,Bool.not_eq_true'] at h
   exact h.1
  ·exact noMen_inv h.2 n hn
theorem chkOne_at {i:Nat} {x:Ent} {all:List Ent}:∀{anc:List (List Nat)} {r:List Ent} {k:Nat} {a:List Nat} {y:Ent},chkOne i x all anc r=true→anc[k]?=some a→r[k]?=some y→pairOK (Nat.blt i 1000000&&mem i a) (mem (1000000+i) a) all x y=true
 | _,[],k,_,_,_,_,h=>by simp at h
 | [],_::_,k,_,_,_,h,_=>by simp at h
 | a0::anc,y0::r,0,a,y,h,ha,hy=>by
  simp only [chkOne,Bool.and_eq_true (chkOne _ _ _ _ _),Bool.and_eq_true (pairOK _ _ _ _ _)] at h
  simp at ha hy;subst ha;subst hy;exact h.1
 | a0::anc,y0::r,k+1,a,y,h,ha,hy=>by
  simp only [chkOne,Bool.and_eq_true (pairOK _ _ _ _ _)] at h
  exact chkOne_at h.2 (by simpa using ha) (by simpa using hy)
theorem chkAll_at {H0:Heap} {σ:St}:∀{i:Nat} {anc:List (List Nat)} {es:List Ent} {j k:Nat} {a:List Nat} {x y:Ent},chkAll H0 σ i anc es=true→j<k→anc[k]?=some a→es[j]?=some x→es[k]?=some y →
  pairOK (Nat.blt (i+j) 1000000&&mem (i+j) a) (mem (1000000+(i+j)) a) (es.drop (j+1)) x y=true
 | _,_,[],j,_,_,_,_,_,_,_,h,_=>by simp at h
 | _,[],_::_,_,k,_,_,_,_,_,h,_,_=>by simp at h
 | i,a0::anc,x0::r,0,k,a,x,y,h,hlt,ha,hx,hy=>by
  simp only [chkAll,Bool.and_eq_true] at h
  simp at hx;subst hx
  cases k with
  | zero=>omega
  | succ k=>exact chkOne_at h.1.2 (by simpa using ha) (by simpa using hy)
 | i,a0::anc,x0::r,j+1,k,a,x,y,h,hlt,ha,hx,hy=>by
  simp only [chkAll,Bool.and_eq_true] at h
  cases k with
  | zero=>omega
  | succ k =>
   have:=chkAll_at (i:=i+1) (j:=j) (k:=k) h.2 (by omega) (by simpa using ha) (by simpa using hx) (by simpa using hy)
   rw [show i+(j+1)=i+1+j from by omega];exact this
theorem chkAll_clean {c:Ctx} {σ:St}:∀{i:Nat} {anc:List (List Nat)} {es:List Ent} {j:Nat} {x:Ent},chkAll c.H0 σ i anc es=true→es[j]?=some x→∀n∈x.made,Clean c σ n
 | _,_,[],j,_,_,h=>by simp at h
 | _,[],_::_,_,_,h,_=>by simp [chkAll] at h
 | i,a0::anc,x0::r,0,x,h,hx=>by
  simp only [chkAll,Bool.and_eq_true] at h
  simp at hx;subst hx
  exact cleanL_inv h.1.1
 | i,a0::anc,x0::r,j+1,x,h,hx=>by
  simp only [chkAll,Bool.and_eq_true] at h
  exact chkAll_clean h.2 (by simpa using hx)
theorem noEnv_put {n d:Nat} {x:V}:∀{env:List (Nat×V)},noEnv n env=true→x.has n=false→noEnv n (put d x env)=true
 | [],_,hx=>by simp [put,noEnv,hx]
 | (m,y)::r,h,hx=>by
  simp only [noEnv,Bool.and_eq_true] at h
  simp only [put]
  cases Nat.beq d m with
  | true=>simp only [cond_true,noEnv,hx,h.2,Bool.not_false,Bool.and_self]
  | false=>simp only [cond_false,noEnv,h.1,noEnv_put h.2 hx,Bool.and_self]
theorem noHeap_put {n d:Nat} {x:Obj'}:∀{H:Heap},noHeap n H=true→x.has n=false→noHeap n (put d x H)=true
 | [],_,hx=>by simp [put,noHeap,hx]
 | (m,y)::r,h,hx=>by
  simp only [noHeap,Bool.and_eq_true] at h
  simp only [put]
  cases Nat.beq d m with
  | true=>simp only [cond_true,noHeap,hx,h.2,Bool.not_false,Bool.and_self]
  | false=>simp only [cond_false,noHeap,h.1,noHeap_put h.2 hx,Bool.and_self]
theorem noHeap_del {n d:Nat}:∀{H:Heap},noHeap n H=true→noHeap n (del d H)=true
 | [],_=>rfl
 | (m,y)::r,h=>by
  simp only [noHeap,Bool.and_eq_true] at h
  simp only [del]
  cases Nat.beq d m with
  | true=>exact noHeap_del h.2
  | false=>simp only [cond_false,noHeap,h.1,noHeap_del h.2,Bool.and_self]
theorem noHeap_dels {n:Nat}:∀{l:List Nat} {H:Heap},noHeap n H=true→noHeap n (dels l H)=true
 | [],_,h=>h
 | d::r,_,h=>noHeap_dels (l:=r) (noHeap_del h)
theorem noHeap_puts {n:Nat}:∀{l:List (Nat×Obj')} {H:Heap},noHeap n H=true→noHeap n l=true→noHeap n (puts l H)=true
 | [],_,h,_=>h
 | (d,o)::r,_,h,hl=>by
  simp only [noHeap,Bool.and_eq_true,Bool.not_eq_true'] at hl
  exact noHeap_puts (l:=r) (noHeap_put h hl.1) hl.2
theorem clean_app {c:Ctx} {σ:St} {e:Ent} {n:Nat} (h:Clean c σ n) (hm:∀f,e.eff=some f→f.val.has n=false∧noHeap n f.new=true):Clean c (e.app σ) n:=by
 unfold Ent.app
 cases he:e.eff with
 | none =>
  refine ⟨h.1,?_,h.2.2⟩
  cases hd:e.dst with
  | none=>exact h.2.1
  | some d=>exact noEnv_put h.2.1 rfl
 | some f =>
  obtain ⟨h1,h2⟩:=hm f he
  refine ⟨h.1,?_,noHeap_puts (noHeap_dels h.2.2) h2⟩
  cases hd:e.dst with
  | none=>exact h.2.1
  | some d=>exact noEnv_put h.2.1 h1
theorem clean_fold {c:Ctx} {n:Nat} {E:Nat→Bool}:∀{es:List Ent} {i:Nat} {σ:St},Clean c σ n→(∀k e,es[k]?=some e→E (i+k)=true→∀f,e.eff=some f→f.val.has n=false∧noHeap n f.new=true)→Clean c (fold E i es σ) n
 | [],_,_,h,_=>h
 | e::r,i,σ,h,hk=>by
  simp only [fold]
  refine clean_fold ?_ fun k e' he' hE=>hk (k+1) e' (by simpa using he') (by rw [show i+(k+1)=i+1+k from by omega];exact hE)
  have h0:=hk 0 e rfl
  rw [Nat.add_zero] at h0
  cases hE:E i with
  | true=>exact clean_app h (h0 hE)
  | false=>exact h
theorem natsEq_eq:∀{a b:List Nat},natsEq a b=true→a=b
 | [],[],_=>rfl
 | x::a,y::b,h=>by
  simp only [natsEq,Bool.and_eq_true] at h
  rw [Nat.eq_of_beq_eq_true h.1,natsEq_eq h.2]
 | [],_::_,h=>by simp [natsEq] at h
 | _::_,[],h=>by simp [natsEq] at h
theorem aftOK_at:∀{aft:List (List Nat)} {os:List Oper} {k:Nat} {o:Oper},aftOK aft os=true→os[k]?=some o→∃a,aft[k]?=some a∧a=(o.after.toList.filter (Region.binds .any)).map (·.on)
 | [],[],k,o,_,h=>by simp at h
 | a::r,o'::s,0,o,h,ho=>by
  simp only [aftOK,Bool.and_eq_true] at h
  simp at ho;subst ho
  exact ⟨a,rfl,natsEq_eq h.1⟩
 | a::r,o'::s,k+1,o,h,ho=>by
  simp only [aftOK,Bool.and_eq_true] at h
  obtain ⟨b,h1,h2⟩:=aftOK_at h.2 (k:=k) (by simpa using ho)
  exact ⟨b,by simpa using h1,h2⟩
 | [],_::_,_,_,h,_=>by simp [aftOK] at h
 | _::_,[],_,_,h,_=>by simp [aftOK] at h
theorem below_inv {j:Nat}:∀{l:List Nat},below j l=true→∀n∈l,n<j
 | [],_,n,h=>by cases h
 | m::r,h,n,hn=>by
  simp only [below,Bool.and_eq_true] at h
  rcases List.mem_cons.1 hn with rfl|hn
  ·exact blt_iff.1 h.1
  ·exact below_inv h.2 n hn
theorem ancRow_inv {aft:List Nat} {anc:List (List Nat)}:∀{l:List Nat},ancRow aft anc l=true→∀n∈l,n<1000000→n∈aft∨∃m∈aft,n∈anc.getD m []
 | [],_,n,h,_=>by cases h
 | m::r,h,n,hn,hlt=>by
  simp only [ancRow,Bool.and_eq_true,Bool.or_eq_true,List.any_eq_true] at h
  rcases List.mem_cons.1 hn with rfl|hn
  ·rcases h.1 with (h1|h1)|⟨m,h1,h2⟩
   ·exact absurd (Nat.le_of_ble_eq_true h1) (by omega)
   ·exact .inl (mem_iff.1 h1)
   ·exact .inr ⟨m,h1,mem_iff.1 h2⟩
  ·exact ancRow_inv h.2 n hn hlt
theorem ancOK_at {all:List (List Nat)}:∀{j:Nat} {aft anc:List (List Nat)} {k:Nat} {a:List Nat},ancOK all j aft anc=true→aft[k]?=some a→∃b,anc[k]?=some b∧below (j+k) a=true∧ancRow a all b=true
 | j,[],[],k,a,_,h=>by simp at h
 | j,a0::aft,b0::anc,0,a,h,ha=>by
  simp only [ancOK,Bool.and_eq_true] at h
  simp at ha;subst ha
  exact ⟨b0,rfl,h.1.1,h.1.2⟩
 | j,a0::aft,b0::anc,k+1,a,h,ha=>by
  simp only [ancOK,Bool.and_eq_true] at h
  obtain ⟨b,h1,h2,h3⟩:=ancOK_at h.2 (k:=k) (by simpa using ha)
  exact ⟨b,by simpa using h1,by rw [show j+(k+1)=j+1+k from by omega];exact h2,h3⟩
 | _,[],_::_,_,_,h,_=>by simp [ancOK] at h
 | _,_::_,[],_,_,h,_=>by simp [ancOK] at h
end Go.Ab
