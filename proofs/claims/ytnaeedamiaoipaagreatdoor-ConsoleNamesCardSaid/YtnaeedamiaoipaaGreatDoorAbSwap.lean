/- The abstract layer, part 21: a contract under other names of its objects. -/
import Derived.Test.YtnaeedamiaoipaaGreatDoorAbAuto
set_option linter.all false
set_option linter.unusedVariables false
namespace Go.Ab
open Go.RowKit
def swN (a b n:Nat):Nat:=bif Nat.beq n a then b else bif Nat.beq n b then a else n
theorem swN_swN (a b n:Nat):swN a b (swN a b n)=n:=by
 unfold swN
 by_cases h1:n=a
 ·subst h1
  by_cases h2:n=b
  ·subst h2;simp
  ·have:Nat.beq b n=false:=by
    cases h:Nat.beq b n
    ·rfl
    ·exact absurd (Nat.eq_of_beq_eq_true h).symm h2
   simp [this]
 ·have e1:Nat.beq n a=false:=by
   cases h:Nat.beq n a
   ·rfl
   ·exact absurd (Nat.eq_of_beq_eq_true h) h1
  by_cases h2:n=b
  ·subst h2;simp [e1]
  ·have e2:Nat.beq n b=false:=by
    cases h:Nat.beq n b
    ·rfl
    ·exact absurd (Nat.eq_of_beq_eq_true h) h2
   simp [e1,e2]
theorem swN_inj {a b m n:Nat} (h:swN a b m=swN a b n):m=n:=by
 have:=congrArg (swN a b) h
 rwa [swN_swN,swN_swN] at this
mutual
def V.sw (a b:Nat):V→V
 | .ptr id off=>.ptr (swN a b id) off
 | .osl id k lo n=>.osl (swN a b id) k lo n
 | .optr id k i off=>.optr (swN a b id) k i off
 | .omap id=>.omap (swN a b id)
 | .bptr id=>.bptr (swN a b id)
 | .nsl z k xs=>.nsl (swN a b z) k xs
 | .nsmap z k kd es=>.nsmap (swN a b z) k kd es
 | .at_ id x=>.at_ (swN a b id) x
 | .agg cs=>.agg (V.swL a b cs)
 | .tup cs=>.tup (V.swL a b cs)
 | .fn f cs=>.fn f (V.swL a b cs)
 | x=>x
def V.swL (a b:Nat):List V→List V
 | []=>[]
 | x::r=>x.sw a b::V.swL a b r
end
theorem swL_map (a b:Nat):∀cs:List V,V.swL a b cs=cs.map (V.sw a b)
 | []=>rfl
 | x::r=>by simp [V.swL,swL_map a b r]
mutual
theorem V.sw_sw (a b:Nat):∀x:V,(x.sw a b).sw a b=x
 | .ptr _ _=>by simp [V.sw,swN_swN]
 | .osl _ _ _ _=>by simp [V.sw,swN_swN]
 | .optr _ _ _ _=>by simp [V.sw,swN_swN]
 | .omap _=>by simp [V.sw,swN_swN]
 | .bptr _=>by simp [V.sw,swN_swN]
 | .nsl _ _ _=>by simp [V.sw,swN_swN]
 | .nsmap _ _ _ _=>by simp [V.sw,swN_swN]
 | .at_ _ _=>by simp [V.sw,swN_swN]
 | .agg cs=>by simp [V.sw,V.swL_swL a b cs]
 | .tup cs=>by simp [V.sw,V.swL_swL a b cs]
 | .fn _ cs=>by simp [V.sw,V.swL_swL a b cs]
 | .bool _|.int _ _|.str _|.nils|.nilp|.nilm|.nilf|.nili|.ifc _|.sl _|.smap _ _|.eptr _ _|.adr _ _|.any=>by simp [V.sw]
theorem V.swL_swL (a b:Nat):∀cs:List V,V.swL a b (V.swL a b cs)=cs
 | []=>rfl
 | x::r=>by simp [V.swL,V.sw_sw a b x,V.swL_swL a b r]
end
def Obj'.sw (a b:Nat):Obj'→Obj'
 | .cells cs t=>.cells (V.swL a b cs) t
 | .nmap z k kd es=>.nmap (swN a b z) k kd es
 | o=>o
def swH (a b:Nat):Heap→Heap
 | []=>[]
 | (n,o)::r=>(swN a b n,o.sw a b)::swH a b r
theorem Obj'.sw_sw (a b:Nat) (o:Obj'):(o.sw a b).sw a b=o:=by
 cases o with
 | cells cs t=>simp [Obj'.sw,V.swL_swL]
 | arr k xs t=>rfl
 | map kd es=>rfl
 | iter rem cur=>rfl
 | mark=>rfl
 | nmap z k kd es=>simp [Obj'.sw,swN_swN]
theorem swH_swH (a b:Nat):∀H:Heap,swH a b (swH a b H)=H
 | []=>rfl
 | (n,o)::r=>by simp [swH,swN_swN,Obj'.sw_sw,swH_swH a b r]
theorem find_swH (a b n:Nat):∀H:Heap,find (swN a b n) (swH a b H)=(find n H).map (Obj'.sw a b)
 | []=>rfl
 | (m,o)::r=>by
  simp only [swH,find]
  have ih:=find_swH a b n r
  cases h:Nat.beq n m with
  | true =>
   have e:=Nat.eq_of_beq_eq_true h;subst e
   simp
  | false =>
   have:Nat.beq (swN a b n) (swN a b m)=false:=by
    cases h':Nat.beq (swN a b n) (swN a b m) with
    | false=>rfl
    | true =>
     have e:=swN_inj (Nat.eq_of_beq_eq_true h');subst e
     simp at h
   simp only [this,cond_false];exact ih
theorem find_swH' {a b n:Nat} {H:Heap} {o:Obj'} (h:find n (swH a b H)=some o):∃o',find (swN a b n) H=some o'∧o=o'.sw a b:=by
 have:=find_swH a b (swN a b n) H
 rw [swN_swN,h] at this
 cases hf:find (swN a b n) H with
 | none=>rw [hf] at this;cases this
 | some o'=>rw [hf] at this;simp at this;exact ⟨o',rfl,this⟩
def Gh.sw (g:Gh) (a b:Nat):Gh:=⟨g.S,fun i=>g.ρ (swN a b i),fun i=>g.base (swN a b i),fun i=>g.cap (swN a b i),fun i=>g.nil (swN a b i)⟩
theorem Gh.sw_sw (g:Gh) (a b:Nat):(g.sw a b).sw a b=g:=by
 unfold Gh.sw
 simp only [swN_swN]
variable {P:Program} {g:Gh} {w:World} {a b:Nat}
theorem Rd.sw_same {S:Nat→Prop} {v:Value} {x:V} (h:Rd S w v x):x.sw a b=x:=by
 induction h with
 | agg vs cs hl hr ih =>
  simp only [V.sw,swL_map,V.agg.injEq]
  refine List.ext_getElem? fun i=>?_
  rw [List.getElem?_map]
  cases hc:cs[i]? with
  | none=>rfl
  | some c=>simp [ih i c hc]
 | _=>rfl
theorem VR.sw {v:Value} {x:V} (h:VR g w v x):VR (g.sw a b) w v (x.sw a b):=by
 induction h with
 | rd h=>rw [h.sw_same];exact .rd h
 | any v=>exact .any v
 | ptr id off =>
  have:=VR.ptr (g:=g.sw a b) (w:=w) (swN a b id) off
  simp only [Gh.sw,swN_swN] at this
  exact this
 | eptr bl o off cur e fz x hS hg hb hr=>exact .eptr bl o off cur e fz x hS hg hb hr
 | oslnil id k lo h=>exact .oslnil _ k lo (by simp only [Gh.sw,swN_swN];exact h)
 | osl id k lo len o c h ho hc hl hm =>
  have:=VR.osl (g:=g.sw a b) (w:=w) (swN a b id) k lo len o c (by simp only [Gh.sw,swN_swN];exact h) (by simp only [Gh.sw,swN_swN];exact ho) (by simp only [Gh.sw,swN_swN];exact hc) hl hm
  simp only [Gh.sw,swN_swN] at this
  exact this
 | optr id k i off =>
  have:=VR.optr (g:=g.sw a b) (w:=w) (swN a b id) k i off
  simp only [Gh.sw,swN_swN] at this
  exact this
 | omap id =>
  have:=VR.omap (g:=g.sw a b) (w:=w) (swN a b id)
  simp only [Gh.sw,swN_swN] at this
  exact this
 | bnil id=>exact .bnil _
 | bself id =>
  have:=VR.bself (g:=g.sw a b) (w:=w) (swN a b id)
  simp only [Gh.sw,swN_swN] at this
  exact this
 | at_ id q v h=>exact VR.at_ (g:=g.sw a b) (w:=w) (swN a b id) q v (by simp only [Gh.sw,swN_swN];exact h)
 | nsl z k xs v h =>
  have:=VR.nsl (g:=g.sw a b) (w:=w) (swN a b z) k xs v (by simp only [Gh.sw,swN_swN];exact h)
  exact this
 | nsmap bl z k kd ents clock es hr hS hg hn =>
  exact VR.nsmap (g:=g.sw a b) (w:=w) bl (swN a b z) k kd ents clock es hr hS hg (by simp only [Gh.sw,swN_swN];exact hn)
 | agg vs cs hl hr ih =>
  simp only [V.sw,swL_map]
  refine .agg vs _ (by simpa using hl) fun i c hc=>?_
  rw [List.getElem?_map] at hc
  cases hx:cs[i]? with
  | none=>rw [hx] at hc;cases hc
  | some y=>rw [hx] at hc;cases hc;exact ih i y hx
 | tup vs cs hl hr ih =>
  simp only [V.sw,swL_map]
  refine .tup vs _ (by simpa using hl) fun i c hc=>?_
  rw [List.getElem?_map] at hc
  cases hx:cs[i]? with
  | none=>rw [hx] at hc;cases hc
  | some y=>rw [hx] at hc;cases hc;exact ih i y hx
 | fn f vs cs hl hr ih =>
  simp only [V.sw,swL_map]
  refine .fn f vs _ (by simpa using hl) fun i c hc=>?_
  rw [List.getElem?_map] at hc
  cases hx:cs[i]? with
  | none=>rw [hx] at hc;cases hc
  | some y=>rw [hx] at hc;cases hc;exact ih i y hx
 | bnd f vs cs hl hr ih =>
  simp only [V.sw,swL_map]
  refine .bnd f vs _ (by simpa using hl) fun i c hc=>?_
  rw [List.getElem?_map] at hc
  cases hx:cs[i]? with
  | none=>rw [hx] at hc;cases hc
  | some y=>rw [hx] at hc;cases hc;exact ih i y hx
theorem OR.sw {id:Nat} {o:Obj'} (h:OR g w id o):OR (g.sw a b) w (swN a b id) (o.sw a b):=by
 cases o with
 | cells cs t =>
  obtain ⟨hn,cur,e,fz,h1,h2,h3,h4⟩:=h
  refine ⟨by simp only [Gh.sw,swN_swN];exact hn,cur,e,fz,by simp only [Gh.sw,swN_swN];exact h1,by rw [swL_map];simpa using h2,h3,fun i c hc=>?_⟩
  rw [swL_map,List.getElem?_map] at hc
  cases hx:cs[i]? with
  | none=>rw [hx] at hc;cases hc
  | some y=>rw [hx] at hc;cases hc;exact (h4 i y hx).sw
 | arr k xs t =>
  simp only [OR,Gh.sw,Obj'.sw,swN_swN];exact h
 | map kd es =>
  simp only [OR,Gh.sw,Obj'.sw,swN_swN];exact h
 | iter rem cur =>
  simp only [OR,Gh.sw,Obj'.sw,swN_swN];exact h
 | mark =>
  simp only [OR,Gh.sw,Obj'.sw,swN_swN];exact h
 | nmap z k kd es =>
  simp only [OR,Gh.sw,Obj'.sw,swN_swN];exact h
theorem HRel.sw {H:Heap} (h:HRel P g w H):HRel P (g.sw a b) w (swH a b H):=by
 refine ⟨fun id o ho=>?_,fun i j o o' hi hj hni hnj he=>?_,fun id o ho hn=>?_,h.lt,h.tabs⟩
 ·obtain ⟨o',h1,rfl⟩:=find_swH' ho
  have:=(h.obj _ _ h1).sw (a:=a) (b:=b)
  rwa [swN_swN] at this
 ·obtain ⟨o1,h1,_⟩:=find_swH' hi
  obtain ⟨o2,h2,_⟩:=find_swH' hj
  exact swN_inj (h.inj _ _ _ _ h1 h2 hni hnj he)
 ·obtain ⟨o1,h1,_⟩:=find_swH' ho
  exact h.sep _ _ h1 hn
theorem Gh.agree.sw {g g':Gh} {id:Nat} (h:g.agree g' (swN a b id)):(g.sw a b).agree (g'.sw a b) id:=h
theorem Frm.sw {w0:World} {g0:Gh} {H0 H:Heap} (h:Frm ⟨w0,g0,H0,0,[],[],H0,g0,w0⟩ g w H):Frm ⟨w0,g0.sw a b,swH a b H0,0,[],[],swH a b H0,g0.sw a b,w0⟩ (g.sw a b) w (swH a b H):=by
 have hM:∀bl,Ctx.M ⟨w0,g0,H0,0,[],[],H0,g0,w0⟩ bl→Ctx.M ⟨w0,g0.sw a b,swH a b H0,0,[],[],swH a b H0,g0.sw a b,w0⟩ bl:=by
  rintro bl ⟨id,o,h1,h2,h3⟩
  refine ⟨swN a b id,o.sw a b,?_,?_,?_⟩
  ·show find _ (swH a b H0)=_;rw [find_swH,h1];rfl
  ·simp only [Gh.sw,swN_swN];exact h2
  ·simp only [Gh.sw,swN_swN];exact h3
 refine ⟨h.os,h.tape,h.output,h.size,fun bl hb hn=>h.old bl hb fun hm=>hn (hM bl hm),fun id o ho hn=>?_,h.sup,fun bl hb=>?_,fun id o ho=>?_⟩
 ·obtain ⟨o1,h1,_⟩:=find_swH' ho
  rcases (h.own _ _ h1 hn).1 with h2|h2
  ·exact ⟨.inl h2,fun _ h=>by cases h⟩
  ·exact ⟨.inr (hM _ h2),fun _ h=>by cases h⟩
 ·rcases (h.sub bl hb).1 with h1|h1|h1
  ·exact ⟨.inl h1,fun _ h=>by cases h⟩
  ·exact ⟨.inr (.inl h1),fun _ h=>by cases h⟩
  ·exact ⟨.inr (.inr (hM bl h1)),fun _ h=>by cases h⟩
 ·obtain ⟨o1,h1,_⟩:=find_swH' ho
  exact (h.par _ _ h1).sw
theorem acall_sw {f:Nat} {args:List V} {H:Heap} {Q:V→Heap→Prop} (a b:Nat) (h:ACall P f args H Q):ACall P f (V.swL a b args) (swH a b H) (fun r H'=>Q (r.sw a b) (swH a b H')):=by
 refine ⟨h.1,fun g w vals hH hl hv=>?_⟩
 have h1:=hH.sw (a:=a) (b:=b)
 rw [swH_swH] at h1
 refine (h.2 (g.sw a b) w vals h1 (by rw [hl,swL_map];simp) fun i x hx=>?_).mono ?_
 ·have:=(hv i (x.sw a b) (by rw [swL_map,List.getElem?_map,hx];rfl)).sw (a:=a) (b:=b)
  rwa [V.sw_sw] at this
 ·rintro en w' ⟨v,r,H',g',rfl,hq,hH',hv',hf,ha⟩
  refine ⟨v,r.sw a b,swH a b H',g'.sw a b,rfl,by simp only [V.sw_sw,swH_swH];exact hq,hH'.sw,hv'.sw,?_,fun id hid=>?_⟩
  ·have:=hf.sw (a:=a) (b:=b)
   rwa [Gh.sw_sw] at this
  ·have h2:find (swN a b id) H'=none:=by
    have:=find_swH a b (swN a b id) H'
    rw [swN_swN,hid] at this
    cases hf:find (swN a b id) H' with
    | none=>rfl
    | some o=>rw [hf] at this;cases this
   have:=(ha _ h2).sw (a:=a) (b:=b) (id:=id)
   rwa [Gh.sw_sw] at this
theorem acall_swe {f:Nat} {args:List V} {H:Heap} {r0:V} {H1:Heap} (a b:Nat) (h:ACall P f args H (fun r H'=>r=r0∧H'=H1)):ACall P f (V.swL a b args) (swH a b H) (fun r H'=>r=r0.sw a b∧H'=swH a b H1):=by
 refine (acall_sw a b h).mono fun r H' ⟨h1,h2⟩=>?_
 exact ⟨by rw [←h1,V.sw_sw],by rw [←h2,swH_swH]⟩
end Go.Ab
