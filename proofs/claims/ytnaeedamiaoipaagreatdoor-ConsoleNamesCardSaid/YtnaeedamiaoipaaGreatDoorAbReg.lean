/- The abstract layer, part 9: regions that run in the order of the text. -/
import Derived.Test.YtnaeedamiaoipaaGreatDoorAbSndI
set_option linter.all false
namespace Go.Ab
open Go.RowKit
def Lk (p:Prop):Prop:=p
theorem Lk.mk {p:Prop} (h:p):Lk p:=h
theorem Lk.out {p:Prop} (h:Lk p):p:=h
attribute [irreducible] Lk
structure MOp where
 ins:MIns
 dst:Option Nat
 guard:Option (Nat×Bool)
def dstOK (nt:Nat):Option Nat→Option Nat→Bool
 | none,none=>true
 | some d,some d'=>Nat.beq d d'&&Nat.blt d nt
 | _,_=>false
def beqB:Bool→Bool→Bool
 | true,true=>true
 | false,false=>true
 | _,_=>false
theorem beqB_eq {a b:Bool} (h:beqB a b=true):a=b:=by cases a<;>cases b<;>simp_all [beqB]
def guardOK (ops:Array Oper):Option (Nat×Bool)→Option (Nat×Bool)→Bool
 | none,none=>true
 | some (s,b),some (j,b')=>beqB b b'&&(match ops[j]? with|some o=>(match o.dst with|some d=>Nat.beq s d|none=>false)|none=>false)
 | _,_=>false
def MOp.ok (P:Program) (nt:Nat) (ops:Array Oper) (m:MOp) (o:Oper):Bool:=m.ins.ok P o.op&&dstOK nt m.dst o.dst&&guardOK ops m.guard o.guard
def mopsOK (P:Program) (nt:Nat) (ops:Array Oper):List MOp→List Oper→Bool
 | [],[]=>true
 | m::r,o::s=>m.ok P nt ops o&&mopsOK P nt ops r s
 | _,_=>false
def cleanL (H0:Heap) (σ:St):List Nat→Bool
 | []=>true
 | n::r=>(match find n H0 with|none=>true|some _=>false)&&noEnv n σ.env&&noHeap n σ.heap&&cleanL H0 σ r
theorem cleanL_inv {c:Ctx} {σ:St}:∀{l:List Nat},cleanL c.H0 σ l=true→∀n∈l,Clean c σ n
 | [],_,n,h=>by cases h
 | m::r,h,n,hm=>by
  simp only [cleanL,Bool.and_eq_true] at h
  obtain ⟨⟨⟨h1,h2⟩,h3⟩,h4⟩:=h
  rcases List.mem_cons.1 hm with rfl|hm
  ·refine ⟨?_,h2,h3⟩
   cases hf:find n c.H0 with
   | none=>rfl
   | some _=>rw [hf] at h1;cases h1
  ·exact cleanL_inv h4 n hm
def delE (d:Option Nat) (env:List (Nat×V)):List (Nat×V) :=
 match d with
 | some d=>put d (.tup []) env
 | none=>env
def MOp.d (m:MOp):Nat:=m.dst.getD 0
def gfork (b want:Bool) (A B:Prop):Prop:=(b=want→A)∧(b=(!want)→B)
theorem gfork_tt {A B:Prop}:gfork true true A B=A:=by simp [gfork]
theorem gfork_tf {A B:Prop}:gfork true false A B=B:=by simp [gfork]
theorem gfork_ft {A B:Prop}:gfork false true A B=B:=by simp [gfork]
theorem gfork_ff {A B:Prop}:gfork false false A B=A:=by simp [gfork]
def runIns (P:Program) (H0:Heap) (m:MOp) (σ:St) (K:Eff→Prop):Prop :=
 bif cleanL H0 σ (m.ins.creates m.d) then stepV P m.ins m.d (m.ins.opds.map (·.ev σ.env)) (fun id=>find id σ.heap) K (fun e=>Lk (K e)) else False
def runOne (P:Program) (H0:Heap) (m:MOp) (σ:St) (K:St→Prop):Prop :=
 match m.guard with
 | none=>runIns P H0 m σ fun e=>K (σ.app m.dst e)
 | some (s,want) =>
  match get s σ.env with
  | .bool b=>gfork b want (runIns P H0 m ⟨put s (.bool want) σ.env,σ.heap⟩ fun e=>K (St.app ⟨put s (.bool want) σ.env,σ.heap⟩ m.dst e)) (K ⟨delE m.dst (put s (.bool (!want)) σ.env),σ.heap⟩)
  | .tup []=>K ⟨delE m.dst σ.env,σ.heap⟩
  | _=>False
def runN (P:Program) (H0:Heap):List MOp→St→(St→Prop)→Prop
 | [],σ,K=>K σ
 | m::r,σ,K=>runOne P H0 m σ fun σ'=>runN P H0 r σ' K
theorem put_same {α:Type} {n:Nat} {x:α}:∀{l:List (Nat×α)},find n l=some x→put n x l=l
 | (m,y)::r,h=>by
  cases hb:Nat.beq n m with
  | true=>simp only [find,hb,cond_true,Option.some.injEq] at h;simp [put,hb,h]
  | false=>simp only [find,hb,cond_false] at h;simp [put,hb,put_same h]
theorem get_bool {s:Nat} {env:List (Nat×V)} {b:Bool} (h:get s env=.bool b):find s env=some (.bool b):=by
 rw [get_find] at h
 cases hf:find s env with
 | none=>rw [hf] at h;cases h
 | some x=>rw [hf] at h;simp at h;rw [h]
section
variable {P:Program} {c:Ctx} {g:Gh} {σ:St} {a:Act} {w:World}
theorem Rel.undef' (h:Rel P c g σ a w) {d:Option Nat} (hd:∀n,d=some n→n<c.nt):Rel P c g ⟨delE d σ.env,σ.heap⟩ (a.put d undef) w:=by
 have:=h.put hd (.tup #[] [] rfl fun i c hc=>by simp at hc:VR g w undef (.tup []))
 cases d<;>exact this
theorem get_tup {s:Nat} {env:List (Nat×V)} (h:get s env=.tup []):find s env=some (.tup []):=by
 rw [get_find] at h
 cases hf:find s env with
 | none=>rw [hf] at h;cases h
 | some x=>rw [hf] at h;simp at h;rw [h]
theorem dstOK_inv {nt:Nat} {d d':Option Nat} (h:dstOK nt d d'=true):d=d'∧∀n,d=some n→n<nt:=by
 cases d<;>cases d'<;>simp [dstOK] at h
 ·exact ⟨rfl,fun n h=>by cases h⟩
 ·refine ⟨by rw [h.1],fun n hn=>by cases hn;exact h.2⟩
theorem guard_wanted {ops:Array Oper} {o:Oper} {s:Nat} {want b:Bool} (hg:guardOK ops (some (s,want)) o.guard=true) (hR:Rel P c g σ a w) (hb:get s σ.env=.bool b) :
  Region.wanted o (yielded ops a.tmps)=beqB b want:=by
 cases hgo:o.guard with
 | none=>rw [hgo] at hg;simp [guardOK] at hg
 | some p =>
  obtain ⟨j,b'⟩:=p
  rw [hgo] at hg
  simp only [guardOK,Bool.and_eq_true] at hg
  obtain ⟨h1,h2⟩:=hg
  have e1:=beqB_eq h1;subst e1
  have:∃oj,ops[j]?=some oj∧oj.dst=some s:=by
   cases hj:ops[j]? with
   | none=>rw [hj] at h2;cases h2
   | some oj =>
    rw [hj] at h2
    cases hd:oj.dst with
    | none=>simp [hd] at h2
    | some d=>simp [hd] at h2;subst h2;exact ⟨oj,rfl,hd⟩
  obtain ⟨oj,hj,hd⟩:=this
  obtain ⟨hlt,hv⟩:=hR.env s _ (get_bool hb)
  have hbv:=hv.bool_inv
  have hlt':s<a.tmps.size:=by rw [hR.size];exact hlt
  have hy:a.tmps[s]?=some (.bool b):=by
   rw [←hbv];simp [Array.getD_eq_getD_getElem?,hlt']
  simp only [Region.wanted,hgo,yielded,hj,Option.bind_some,hd,hy]
  cases b<;>cases want<;>rfl
theorem guard_tup {ops:Array Oper} {o:Oper} {s:Nat} {want:Bool} (hg:guardOK ops (some (s,want)) o.guard=true) (hR:Rel P c g σ a w) (hb:get s σ.env=.tup []):Region.wanted o (yielded ops a.tmps)=false:=by
 cases hgo:o.guard with
 | none=>rw [hgo] at hg;simp [guardOK] at hg
 | some p =>
  obtain ⟨j,b'⟩:=p
  rw [hgo] at hg
  simp only [guardOK,Bool.and_eq_true] at hg
  obtain ⟨h1,h2⟩:=hg
  have:∃oj,ops[j]?=some oj∧oj.dst=some s:=by
   cases hj:ops[j]? with
   | none=>rw [hj] at h2;cases h2
   | some oj =>
    rw [hj] at h2
    cases hd:oj.dst with
    | none=>simp [hd] at h2
    | some d=>simp [hd] at h2;subst h2;exact ⟨oj,rfl,hd⟩
  obtain ⟨oj,hj,hd⟩:=this
  obtain ⟨hlt,hv⟩:=hR.env s _ (get_tup hb)
  obtain ⟨vs,hv1,hv2,_⟩:=hv.tup_inv
  have hlt':s<a.tmps.size:=by rw [hR.size];exact hlt
  have hy:a.tmps[s]?=some (.tuple vs):=by
   rw [←hv1];simp [Array.getD_eq_getD_getElem?,hlt']
  simp only [Region.wanted,hgo,yielded,hj,Option.bind_some,hd,hy]
  rfl
theorem guard_none {ops:Array Oper} {o:Oper} (hg:guardOK ops none o.guard=true) (y:Nat→Option Bool):Region.wanted o y=true:=by
 cases hgo:o.guard with
 | none=>simp [Region.wanted,hgo]
 | some p=>rw [hgo] at hg;simp [guardOK] at hg
theorem runIns_sound {ops:Array Oper} {o:Oper} {m:MOp} {Q:Exit→Act→World→Prop} {K:Eff→Prop} {K':Act→World→Prop} (hok:m.ok P c.nt ops o=true) (hR:Rel P c g σ a w)
  (h:runIns P c.H0 m σ K) (hK:∀eff,K eff→∀(g':Gh) (a':Act) (w':World),Rel P c g' (σ.app m.dst eff) a' w'→K' a' w'):o.wp P a w K' Q:=by
 simp only [MOp.ok,Bool.and_eq_true] at hok
 obtain ⟨⟨h1,h2⟩,h3⟩:=hok
 obtain ⟨hd,hlt⟩:=dstOK_inv h2
 unfold runIns at h
 cases hc:cleanL c.H0 σ (m.ins.creates m.d) with
 | false=>rw [hc] at h;exact h.elim
 | true =>
  rw [hc] at h
  simp only [cond_true] at h
  refine ins_sound m.ins (d:=m.d) h1 hR (fun id o h=>h) (cleanL_inv hc) h fun eff he g' v w' hs hf hv=>?_
  have he':K eff:=he.elim id Lk.out
  refine hK eff he' g' _ w' ?_
  rw [←hd]
  exact hR.step hlt hs hf hv
theorem runN_sound {ops:Array Oper} {Q:Exit→Act→World→Prop} {K:St→Prop} (hK:∀σ' g' a' w',K σ'→Rel P c g' σ' a' w'→Q .normal a' w') :
  ∀(ms:List MOp) (i:Nat) (g:Gh) (σ:St) (a:Act) (w:World),mopsOK P c.nt ops ms (ops.toList.drop i)=true→Rel P c g σ a w→runN P c.H0 ms σ K→wpOps P ops Q (List.range' i ms.length) a w
 | [],i,g,σ,a,w,_,hR,h=>hK σ g a w h hR
 | m :: r,i,g,σ,a,w,hok,hR,h=>by
  rw [List.length_cons,List.range'_succ,wpOps_cons]
  cases hd:ops.toList.drop i with
  | nil=>rw [hd] at hok;simp [mopsOK] at hok
  | cons o s =>
   rw [hd] at hok
   simp only [mopsOK,Bool.and_eq_true] at hok
   obtain ⟨hm,hr⟩:=hok
   have hi:ops[i]?=some o:=by
    have:(ops.toList.drop i)[0]?=some o:=by rw [hd];rfl
    rw [List.getElem?_drop,Nat.add_zero,Array.getElem?_toList] at this
    exact this
   have hs:ops.toList.drop (i+1)=s:=by
    have:=congrArg List.tail hd
    simpa using this
   rw [←hs] at hr
   have ih:=fun g σ a w=>runN_sound hK r (i+1) g σ a w hr
   have hm':=hm
   simp only [MOp.ok,Bool.and_eq_true] at hm'
   obtain ⟨⟨_,h2⟩,h3⟩:=hm'
   obtain ⟨hdd,hlt⟩:=dstOK_inv h2
   simp only [wpOp,hi]
   simp only [runN,runOne] at h
   cases hg:m.guard with
   | none =>
    rw [hg] at h h3
    simp only [guard_none h3,if_true]
    exact .inl (runIns_sound hm hR h fun eff he g' a' w' hR'=>ih g' _ a' w' hR' he)
   | some p =>
    obtain ⟨t,want⟩:=p
    rw [hg] at h h3
    simp only at h
    split at h
    case h_3=>exact h.elim
    case h_2 hb =>
     rw [guard_tup h3 hR hb]
     simp only [Bool.false_eq_true,if_false]
     exact ih g _ _ w (by rw [←hdd];exact hR.undef' hlt) h
    rename_i b hb
    obtain ⟨hx,hy⟩:=h
    rw [guard_wanted h3 hR hb]
    have hf:=get_bool hb
    by_cases hbw:b=want
    ·subst hbw
     have hw:beqB b b=true:=by cases b<;>rfl
     simp only [hw,if_true]
     have hx:=hx rfl
     rw [put_same hf] at hx
     exact .inl (runIns_sound hm hR hx fun eff he g' a' w' hR'=>ih g' _ a' w' hR' he)
    ·have hbn:b=(!want):=by cases b<;>cases want<;>first|rfl|exact absurd rfl hbw
     have hw:beqB b want=false:=by rw [hbn];cases want<;>rfl
     simp only [hw,Bool.false_eq_true,if_false]
     have hy:=hy hbn
     rw [←hbn,put_same hf] at hy
     exact ih g _ _ w (by rw [←hdd];exact hR.undef' hlt) hy
theorem region_ops {ops:Array Oper} {ms:List MOp} {Q:Exit→Act→World→Prop} {K:St→Prop} (hK:∀σ' g' a' w',K σ'→Rel P c g' σ' a' w'→Q .normal a' w')
  (hok:mopsOK P c.nt ops ms ops.toList=true) (hR:Rel P c g σ a w) (h:runN P c.H0 ms σ K):wpOps P ops Q (List.range ops.size) a w:=by
 have hl:∀{ms:List MOp} {l:List Oper},mopsOK P c.nt ops ms l=true→ms.length=l.length:=by
  intro ms
  induction ms with
  | nil =>
   intro l h
   cases l with
   | nil=>rfl
   | cons o s=>cases h
  | cons m r ih =>
   intro l h
   cases l with
   | nil=>cases h
   | cons o s =>
    simp only [mopsOK,Bool.and_eq_true] at h
    simp only [List.length_cons,ih h.2]
 have:=runN_sound hK ms 0 g σ a w (by rw [List.drop_zero];exact hok) hR h
 rw [hl hok,Array.length_toList] at this
 rwa [List.range_eq_range']
end
def obOf (h:Heap) (id:Nat):Option Obj':=find id h
theorem mem_iff {n:Nat}:∀{l:List Nat},mem n l=true↔n∈l
 | []=>by simp [mem]
 | m::r=>by
  simp only [mem,Bool.or_eq_true,List.mem_cons]
  rw [mem_iff]
  exact or_congr ⟨Nat.eq_of_beq_eq_true,fun h=>by rw [h];exact Nat.beq_refl m⟩ Iff.rfl
theorem ACall.mono {P:Program} {f:Nat} {args:List V} {H:Heap} {Q Q':V→Heap→Prop} (h:ACall P f args H Q) (hq:∀r H',Q r H'→Q' r H'):ACall P f args H Q' :=
 ⟨h.1,fun g w vals h1 h2 h3=>(h.2 g w vals h1 h2 h3).mono fun _ _ ⟨v,r,H',g',k1,k2,k3⟩=>⟨v,r,H',g',k1,hq _ _ k2,k3⟩⟩
theorem Rel.sub {P:Program} {c:Ctx} {g:Gh} {σ:St} {a:Act} {w:World} {τ:St} (h:Rel P c g σ a w) (he:∀s x,find s τ.env=some x→find s σ.env=some x) (hh:∀s o,find s τ.heap=some o→find s σ.heap=some o):Rel P c g τ a w :=
 ⟨h.size,h.dfr,fun s x hx=>h.env s x (he s x hx),h.hp.sub hh,⟨h.fr.os,h.fr.tape,h.fr.output,h.fr.size,h.fr.old,fun id o ho=>h.fr.own id o (hh id o ho),h.fr.sup,h.fr.sub,h.fr.par⟩⟩
end Go.Ab
