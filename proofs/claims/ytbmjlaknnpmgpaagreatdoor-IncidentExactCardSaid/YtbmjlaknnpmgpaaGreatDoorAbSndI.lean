/- The abstract layer, part 13: strings of bytes, calls; every instruction is sound. -/
import Derived.Test.YtbmjlaknnpmgpaaGreatDoorAbBase
import Derived.RangeFuncLeaves
import Derived.RangeFuncFrom
import Derived.OrdersIn
set_option linter.all false
namespace Go.Ab
open Go.RowKit
section
variable {P:Program} {o:Oper} {c:Ctx} {g:Gh} {σ:St} {a:Act} {w:World} {ob:Nat→Option a0c} {K L:Eff→Prop} {K':Act→World→Prop} {Q':Exit→Act→World→Prop}
theorem b1d:∀{ids:List Nat} {H:Heap},b6j ids ob=some H→H.map (·.1)=ids∧∀id o,find id H=some o→ob id=some o∧id∈ids
 | [],H,h=>by simp [b6j] at h;subst h;exact ⟨rfl,fun id o h=>by simp [find] at h⟩
 | n :: r,H,h=>by
  simp only [b6j] at h
  split at h
  ·rename_i o ho
   cases hr:b6j r ob with
   | none=>rw [hr] at h;cases h
   | some H' =>
    rw [hr] at h
    simp at h;subst h
    obtain ⟨h1,h2⟩:=b1d hr
    refine ⟨by simp [h1],fun id o' h=>?_⟩
    by_cases e:id=n
    ·subst e
     simp [find] at h;subst h
     exact ⟨ho,xJ⟩
    ·have:Nat.beq id n=false:=by
      cases hb:Nat.beq id n with
      | true=>exact absurd (zR hb) e
      | false=>rfl
     simp only [find,this,vO] at h
     obtain ⟨h3,h4⟩:=h2 id o' h
     exact ⟨h3,xD _ h4⟩
  ·cases h
theorem b6i {ids:List Nat} {H:Heap} (h:b6j ids ob=some H) {id:Nat} (hid:id∈ids):∃o,find id H=some o:=by
 have h1:=(b1d h).1
 rw [←h1] at hid
 clear h h1
 induction H with
 | nil=>simp at hid
 | cons p H ih =>
  obtain ⟨m,o⟩:=p
  by_cases e:Nat.beq id m=true
  ·exact ⟨o,by simp [find,e]⟩
  ·have hne:¬id=m:=fun h=>e (by rw [h];exact vE m)
   simp only [w5,w4] at hid
   obtain ⟨o',ho'⟩:=ih (hid.resolve_left hne)
   have e':Nat.beq id m=false:=by
    cases hb:Nat.beq id m with
    | true=>exact absurd hb e
    | false=>rfl
   exact ⟨o',by simp only [find,e',vO];exact ho'⟩
theorem b9n {n:Nat}:∀{l:List Nat},mem n l=true→n∈l
 | [],h=>by simp [mem] at h
 | m::r,h=>by
  simp only [mem,wT] at h
  rcases h with h|h
  ·have:=zR h;subst this;exact xJ
  ·exact xD _ (b9n h)
theorem b2q:∀{H:Heap} {ids news:List Nat},a9u H ids news=true→(∀id o,(id,o)∈H→id∈ids∨id∈news)∧∀id o,(id,o)∈H→find id H=some o
 | [],_,_,_=>⟨fun _ _ h=>by simp at h,fun _ _ h=>by simp at h⟩
 | (n,o1)::r,ids,news,h=>by
  simp only [a9u,wG,wT] at h
  obtain ⟨⟨h1,h2⟩,h3⟩:=h
  obtain ⟨k1,k2⟩:=b2q h3
  refine ⟨fun id o ho=>?_,fun id o ho=>?_⟩
  ·rcases w4.1 ho with ho|ho
   ·cases ho
    exact h1.imp b9n b9n
   ·exact k1 id o ho
  ·rcases w4.1 ho with ho|ho
   ·cases ho;simp [find]
   ·have:=k2 id o ho
    by_cases e:id=n
    ·subst e
     rw [this] at h2;cases h2
    ·have e':Nat.beq id n=false:=by
      cases hb:Nat.beq id n with
      | true=>exact absurd (zR hb) e
      | false=>rfl
     simp only [find,e',vO];exact this
theorem a2l.sub {H H':Heap} (h:a2l P g w H) (hs:∀id o,find id H'=some o→find id H=some o):a2l P g w H' :=
 ⟨fun id o ho=>h.obj id o (hs id o ho),fun i j o o' hi hj=>h.inj i j o o' (hs i o hi) (hs j o' hj),fun id o ho=>h.sep id o (hs id o ho),h.lt,h.tabs⟩
theorem VR.bnd_inv {v:Value} {n:Nat} {cs:List V} (h:VR g w v (.fn (.yield n) cs)):∃vs:Array Value,v=.func (.func n) vs #[]∧vs.size=cs.length∧∀(i:Nat) (c:V),cs[i]?=some c→VR g w (vs.getD i undef) c:=by
 cases h with
 | rd h=>cases h
 | bnd n vs _ hl hr=>exact ⟨vs,rfl,hl,hr⟩
theorem s_call {f:Opd} {args:List Opd} {ids news:List Nat} (hok:(a06.call f args ids news).ok P o.op=true) (hR:Rel P c g σ a w) (hob:∀id o,ob id=some o→find id σ.heap=some o) {d:Nat} (hcl:∀n∈news,Clean c σ n)
  (h:w9 P (.call f args ids news) d (f.ev σ.env::args.map (·.ev σ.env)) ob K L) (hF:Fin o c g σ a w K L K'):o.wp P a w K' Q':=by
 have:∃cl f',o.op=.call cl∧cl.callee=.value f'∧f.ok f'=true∧a8h args cl.args.toList=true:=by
  cases ho:o.op<;>rw [ho] at hok<;>try (simp [a06.ok] at hok;done)
  rename_i cl
  obtain ⟨callee,args',ts⟩:=cl
  cases callee<;>try (simp [a06.ok] at hok;done)
  simp only [a06.ok,wG] at hok
  exact ⟨_,_,rfl,rfl,hok.1,hok.2⟩
 obtain ⟨cl,f',ho,hcal,hf,hargs⟩:=this
 have vf:=Opd.vr hR hf
 obtain ⟨hal,hav⟩:=b9j hR hargs
 simp only [w9,b0y] at h
 split at h
 ·rename_i n cap hfn
  rw [hfn] at vf
  obtain ⟨vs,ef,hvl,hvr⟩:=vf.fn_inv
  split at h
  ·rename_i H hH
   obtain ⟨hcb,hcall⟩:=h
   obtain ⟨hdom,hsub⟩:=b1d hH
   have hHR:a2l P g w H:=hR.hp.sub fun id o ho=>hob id o (hsub id o ho).1
   have hAargs:=hcall g w (cl.args.map a.eval++vs) hHR (by simp [hal,hvl]) (fun i x hi=>by
    rw [List.getElem?_append] at hi
    simp only [wP] at hi
    by_cases hlt:i<args.length
    ·rw [if_pos hlt] at hi
     have:=hav i x hi
     have e1:(cl.args.map a.eval++vs).getD i undef=(cl.args.toList.map a.eval).getD i undef:=by
      have:i<cl.args.size:=by simpa [hal] using hlt
      simp [zC,zY,this]
     rw [e1];exact this
    ·rw [if_neg hlt] at hi
     have:=hvr (i - args.length) x hi
     have hsz:args.length=cl.args.size:=by simpa using hal
     have e1:(cl.args.map a.eval++vs).getD i undef=vs.getD (i - args.length) undef:=by
      simp [zC,zY,←hsz,hlt]
     rw [e1];exact this)
   have hrun:(execOp a.eval o).run P w=.ok (.enter n (cl.args.map a.eval++vs)) w:=by
    unfold callable at hcb
    split at hcb
    ·rename_i fn hfn'
     simp only [wG,xX] at hcb
     have hb:fn.body.isNone=false:=by
      cases hbo:fn.body with
      | none=>rw [hbo] at hcb;exact absurd hcb.2 (by simp)
      | some _=>rfl
     have hnm:¬fn.name = "runtime.NumGoroutine":=by simpa using hcb.1
     have hbb:¬fn.body=none:=by intro h;rw [h] at hb;cases hb
     simp [execOp,ho,resolve,hcal,ef,Deferred.ofValue,invoke,callFunc,hfn',hnm,hbb]
    ·cases hcb
   unfold Oper.wp
   rw [hrun]
   refine hAargs.mono ?_
   rintro e w' ⟨v,r,H',g',rfl,hq,hH',hv,hfr,hgh⟩
   by_cases hin:a9u H' ids news=true
   case neg=>simp [hin] at hq
   simp only [hin,vQ] at hq
   obtain ⟨k1,k2⟩:=b2q hin
   have hids:∀id∈ids,∃o,find id H=some o:=fun id hid=>b6i hH hid
   have hdomf:∀id o,find id H=some o→id∈ids∧find id σ.heap=some o:=fun id o ho=>⟨(hsub id o ho).2,hob id o (hsub id o ho).1⟩
   have hM:∀b,(⟨w,g,H,0,[],[],H,g,w⟩:Ctx).M b→∃id o,id∈ids∧find id σ.heap=some o∧¬g.nil id∧g.ρ id=b:=by
    rintro b ⟨id,o,h1,h2,h3⟩
    exact ⟨id,o,(hdomf id o h1).1,(hdomf id o h1).2,h2,h3⟩
   have hmemE:∀id,id∈ids→id∈(Eff.mk r ids H').ids:=fun id hid=>by simp [Eff.ids,hid]
   refine hF ⟨r,ids,H'⟩ (.inr hq) g' v w' ⟨hfr.os,hfr.tape,hfr.output,hfr.size,fun b hb hb'=>hfr.old b hb fun hm=>?_,fun b hb=>hfr.sup b (.inl hb),fun b hb=>?_,hH'.lt,fun id hid=>hgh id ?_,fun id o ho=>hH'.obj id o (k2 id o ho),fun id o ho hn=>?_,
    fun i j o o' hi hj hni hnj=>hH'.inj i j o o' (k2 i o hi) (k2 j o' hj) hni hnj,fun id o ho hn=>hH'.sep id o (k2 id o ho) hn⟩ (fun id o ho=>?_) hv
   ·obtain ⟨id,o,h1,h2,h3,h4⟩:=hM b hm
    exact hb' id o (hmemE id h1) h2 h3 h4
   ·rcases (hfr.sub b hb).1 with h1|h1|h1
    ·exact .inl h1
    ·exact .inr (.inl h1)
    ·obtain ⟨id,o,h2,h3,h4,h5⟩:=hM b h1
     exact .inr (.inr ⟨id,o,hmemE id h2,h3,h4,h5⟩)
   ·cases hfd:find id H' with
    | none=>rfl
    | some o=>exact absurd (mem_of_find hfd) (hid o)
   ·rcases (hfr.own id o (k2 id o ho) hn).1 with h1|h1
    ·exact .inl h1
    ·obtain ⟨id',o',h2,h3,h4,h5⟩:=hM _ h1
     exact .inr ⟨id',o',hmemE id' h2,h3,h4,h5⟩
   ·rcases k1 id o ho with h1|h1
    ·obtain ⟨o',ho'⟩:=hids id h1
     exact .inl (hfr.par id o' ho')
    ·exact .inr ⟨(hcl id h1).1,fun s x hx=>a2p (hcl id h1).2.1 hx,fun m o' hm _=>a2o (hcl id h1).2.2 hm⟩
  ·exact h.elim
 ·rename_i n cap hfn
  rw [hfn] at vf
  obtain ⟨vs,ef,hvl,hvr⟩:=vf.bnd_inv
  split at h
  ·rename_i H hH
   obtain ⟨hcb,hcall⟩:=h
   obtain ⟨hdom,hsub⟩:=b1d hH
   have hHR:a2l P g w H:=hR.hp.sub fun id o ho=>hob id o (hsub id o ho).1
   have hAargs:=hcall g w (vs++cl.args.map a.eval) hHR (by simp [hal,hvl]) (fun i x hi=>by
    rw [List.getElem?_append] at hi
    by_cases hlt:i<cap.length
    ·rw [if_pos hlt] at hi
     have:=hvr i x hi
     have e1:(vs++cl.args.map a.eval).getD i undef=vs.getD i undef:=by
      have:i<vs.size:=by rw [hvl];exact hlt
      simp [zC,zY,this]
     rw [e1];exact this
    ·rw [if_neg hlt] at hi
     have:=hav (i - cap.length) x hi
     have e1:(vs++cl.args.map a.eval).getD i undef=(cl.args.toList.map a.eval).getD (i - cap.length) undef:=by
      simp [zC,zY,hvl,hlt]
     rw [e1];exact this)
   have hrun:(execOp a.eval o).run P w=.ok (.enter n (vs++cl.args.map a.eval)) w:=by
    unfold callable at hcb
    split at hcb
    ·rename_i fn hfn'
     simp only [wG,xX] at hcb
     have hb:fn.body.isNone=false:=by
      cases hbo:fn.body with
      | none=>rw [hbo] at hcb;exact absurd hcb.2 (by simp)
      | some _=>rfl
     have hnm:¬fn.name = "runtime.NumGoroutine":=by simpa using hcb.1
     have hbb:¬fn.body=none:=by intro h;rw [h] at hb;cases hb
     simp [execOp,ho,resolve,hcal,ef,Deferred.ofValue,invoke,callFunc,hfn',hnm,hbb]
    ·cases hcb
   unfold Oper.wp
   rw [hrun]
   refine hAargs.mono ?_
   rintro e w' ⟨v,r,H',g',rfl,hq,hH',hv,hfr,hgh⟩
   by_cases hin:a9u H' ids news=true
   case neg=>simp [hin] at hq
   simp only [hin,vQ] at hq
   obtain ⟨k1,k2⟩:=b2q hin
   have hids:∀id∈ids,∃o,find id H=some o:=fun id hid=>b6i hH hid
   have hdomf:∀id o,find id H=some o→id∈ids∧find id σ.heap=some o:=fun id o ho=>⟨(hsub id o ho).2,hob id o (hsub id o ho).1⟩
   have hM:∀b,(⟨w,g,H,0,[],[],H,g,w⟩:Ctx).M b→∃id o,id∈ids∧find id σ.heap=some o∧¬g.nil id∧g.ρ id=b:=by
    rintro b ⟨id,o,h1,h2,h3⟩
    exact ⟨id,o,(hdomf id o h1).1,(hdomf id o h1).2,h2,h3⟩
   have hmemE:∀id,id∈ids→id∈(Eff.mk r ids H').ids:=fun id hid=>by simp [Eff.ids,hid]
   refine hF ⟨r,ids,H'⟩ (.inr hq) g' v w' ⟨hfr.os,hfr.tape,hfr.output,hfr.size,fun b hb hb'=>hfr.old b hb fun hm=>?_,fun b hb=>hfr.sup b (.inl hb),fun b hb=>?_,hH'.lt,fun id hid=>hgh id ?_,fun id o ho=>hH'.obj id o (k2 id o ho),fun id o ho hn=>?_,
    fun i j o o' hi hj hni hnj=>hH'.inj i j o o' (k2 i o hi) (k2 j o' hj) hni hnj,fun id o ho hn=>hH'.sep id o (k2 id o ho) hn⟩ (fun id o ho=>?_) hv
   ·obtain ⟨id,o,h1,h2,h3,h4⟩:=hM b hm
    exact hb' id o (hmemE id h1) h2 h3 h4
   ·rcases (hfr.sub b hb).1 with h1|h1|h1
    ·exact .inl h1
    ·exact .inr (.inl h1)
    ·obtain ⟨id,o,h2,h3,h4,h5⟩:=hM b h1
     exact .inr (.inr ⟨id,o,hmemE id h2,h3,h4,h5⟩)
   ·cases hfd:find id H' with
    | none=>rfl
    | some o=>exact absurd (mem_of_find hfd) (hid o)
   ·rcases (hfr.own id o (k2 id o ho) hn).1 with h1|h1
    ·exact .inl h1
    ·obtain ⟨id',o',h2,h3,h4,h5⟩:=hM _ h1
     exact .inr ⟨id',o',hmemE id' h2,h3,h4,h5⟩
   ·rcases k1 id o ho with h1|h1
    ·obtain ⟨o',ho'⟩:=hids id h1
     exact .inl (hfr.par id o' ho')
    ·exact .inr ⟨(hcl id h1).1,fun s x hx=>a2p (hcl id h1).2.1 hx,fun m o' hm _=>a2o (hcl id h1).2.2 hm⟩
  ·exact h.elim
 ·exact h.elim
theorem f0n {t:TypeId} {cnt k:Nat} (h:d3a P t cnt k=true):∃e,P.underlying t=some (.array cnt e)∧∀w':World,(Go.sizeOf e).run P w'=.ok k w':=by
 unfold d3a at h
 split at h<;>try (cases h;done)
 rename_i n e hu
 simp only [wG] at h
 have:=zR h.1;subst this
 exact ⟨e,hu,a9j h.2⟩
theorem f9s {n:Option Nat} {k cnt:Nat} {x i:Opd} (hok:(a06.aix n k cnt x i).ok P o.op=true) (hR:Rel P c g σ a w) {d:Nat} (h:w9 P (.aix n k cnt x i) d [x.ev σ.env,i.ev σ.env] ob K L) (hF:Fin o c g σ a w K L K'):o.wp P a w K' Q':=by
 have:∃t y z,o.op=.index t y z∧x.ok y=true∧i.ok z=true∧d3a P t cnt k=true∧(match P.underlying t with|some (.array _ e)=>decide (c2h P e=some n)|_=>false)=true:=by
  cases ho:o.op<;>rw [ho] at hok<;>try (simp [a06.ok] at hok;done)
  simp only [a06.ok,wG] at hok
  exact ⟨_,_,_,rfl,hok.1.1.1,hok.1.1.2,hok.1.2,hok.2⟩
 obtain ⟨t,y,z,ho,hx,hi,ht,hn⟩:=this
 obtain ⟨e,hu,hsz⟩:=f0n ht
 rw [hu] at hn
 simp only [xO] at hn
 have vx:=Opd.vr hR hx
 have vi:=Opd.vr hR hi
 simp only [w9,e0x] at h
 split at h
 ·rename_i cs kk m hc hm
  rw [hc] at vx;rw [hm] at vi
  obtain ⟨vs,hv,hl,hr⟩:=vx.agg_inv
  obtain ⟨ei,_⟩:=vi.int_inv
  obtain ⟨⟨h0,h1⟩,h⟩:=h
  obtain ⟨off,hoff⟩:∃off,off=m.toNat*k:=⟨_,rfl⟩
  rw [←hoff] at h
  obtain ⟨x',hk,hx'⟩:=c1c h
  rcases hx' with ⟨rfl,hx'⟩|⟨q,rfl,hq,rfl⟩
  ·have hlt:off<vs.size:=by rw [hl];exact (zG.1 hx').1
   refine a09 hR hF (v:=vs.getD off undef) ?_ (.inl hk) (hr off x' hx')
   simp [execOp,ho,Instr.index,run_underlying hu,ei,asIntOf,hv,Go.part,b8d hn w,zC,hlt,h0,h1,hsz w,←hoff]
  ·obtain ⟨h2,h3⟩:=b8c hn
   refine a09 hR hF (v:=.agg (vs.extract off (off+q))) ?_ (.inl hk) (.agg _ _ (by simp;omega) fun i p hi=>?_)
   ·have hkq:k=q:=by
     have a1:=hsz w
     rw [h3 w] at a1
     cases a1;rfl
    subst hkq
    simp [execOp,ho,Instr.index,run_underlying hu,ei,asIntOf,hv,Go.part,h2 w,h3 w,h0,h1,←hoff]
   ·rw [xL] at hi
    split at hi
    ·rename_i him
     have hi':cs[off+i]?=some p:=by simpa using hi
     have hq:=hr (off+i) p hi'
     have hlt:off+i<vs.size:=by rw [hl];exact (zG.1 hi').1
     have e1:(vs.extract off (off+q)).getD i undef=vs.getD (off+i) undef:=by
      have h3:i<min (off+q) vs.size - off:=by omega
      simp [zC,hlt,h3]
     rw [e1];exact hq
    ·cases hi
 ·exact h.elim
theorem b0v {k:Nat}:∀{vs:List V} {n i:Nat} {q:Nat×Nat×V},(a1u k n vs)[i]?=some q→∃x,vs[i]?=some x∧q=((n+i)*k,k,x)
 | [],n,i,q,h=>by simp [a1u] at h
 | x::r,n,i,q,h=>by
  cases i with
  | zero=>simp [a1u] at h;exact ⟨x,rfl,h.symm⟩
  | succ i =>
   simp [a1u] at h
   obtain ⟨y,h1,h2⟩:=b0v h
   exact ⟨y,by simpa using h1,by rw [h2];congr 2;omega⟩
theorem b0u {k:Nat}:∀{vs:List V} {n:Nat},(a1u k n vs).length=vs.length
 | [],_=>rfl
 | x::r,n=>by simp [a1u,b0u]
theorem e3j {k:Nat} {zs:List V} {xs:List Opd} (hok:(a06.barr k zs xs).ok P o.op=true) (hR:Rel P c g σ a w) {d:Nat} (h:w9 P (.barr k zs xs) d (xs.map (·.ev σ.env)) ob K L) (hF:Fin o c g σ a w K L K'):o.wp P a w K' Q':=by
 have:∃t parts n e,o.op=.build t parts∧a7a P t zs=true∧P.underlying t=some (.array n e)∧a3r P e k=true∧b3y 0 xs parts.toList=true:=by
  cases ho:o.op<;>rw [ho] at hok<;>try (simp [a06.ok] at hok;done)
  rename_i t parts
  simp only [a06.ok,wG] at hok
  obtain ⟨⟨h1,h2⟩,h3⟩:=hok
  split at h2<;>try (cases h2;done)
  rename_i n e hu
  exact ⟨t,parts,n,e,rfl,h1,hu,h2,h3⟩
 obtain ⟨t,parts,n,e,ho,hz,hu,hsz,hp⟩:=this
 obtain ⟨z,hzr,hzl,hzv⟩:=b59 hz
 obtain ⟨hlen,hparts⟩:=b3a hp
 simp only [w9] at h
 split at h
 ·rename_i cs hfill
  obtain ⟨cells',r1,r2,r3⟩:=a9y (g:=g) (w0:=w) (fun i=>some (i*k,k)) (parts.toList.map fun q=>(q.1,a.eval q.2)) (a1u k 0 (xs.map (·.ev σ.env))) z.cells zs cs (by simp [b0u,hlen])
   (fun i pt q hi hq=>by
    obtain ⟨x,h1,h2⟩:=b0v hq
    rw [xS] at hi h1
    cases hpi:parts.toList[i]? with
    | none=>rw [hpi] at hi;cases hi
    | some p0 =>
     cases hqi:xs[i]? with
     | none=>rw [hqi] at h1;cases h1
     | some q0 =>
      rw [hpi] at hi;rw [hqi] at h1
      simp at hi h1;subst hi;subst h2
      obtain ⟨k1,k2⟩:=hparts i q0 p0 hqi hpi
      refine ⟨by simp [k1],?_⟩
      rw [←h1];exact Opd.vr hR k2)
   hzl (fun i x hx=>.rd (hzv g.S w i x hx).1) hfill
  have hbuild:(Instr.build t (parts.map fun (i,x)=>(i,a.eval x))).run P w=.ok (.agg cells') w:=by
   simp only [Instr.build,vB,hzr w,xP,run_underlying hu,a9j hsz w]
   have e2:(parts.map fun (i,x)=>(i,a.eval x)).toList=parts.toList.map fun q=>(q.1,a.eval q.2):=by simp
   rw [e2,r1]
   rfl
  refine a09 hR hF (v:=.agg cells') ?_ (.inl h) (.agg _ _ r2 r3)
  simp only [execOp,ho]
  exact a7f hbuild
 ·exact h.elim
theorem b7b (i:a06) {d:Nat} (hok:i.ok P o.op=true) (hR:Rel P c g σ a w) (hob:∀id o,ob id=some o→find id σ.heap=some o) (hcl:∀n∈i.creates d,Clean c σ n)
  (h:w9 P i d (i.opds.map (·.ev σ.env)) ob K L) (hF:Fin o c g σ a w K L K'):o.wp P a w K' Q':=by
 cases i with
 | mv x=>exact g75 hok hR h hF
 | pick c a b=>exact e3e hok hR h hF
 | alloc zs=>exact d5l hok hR (hcl d (by simp [a06.creates])) h hF
 | box x=>exact f9o hok hR (hcl d (by simp [a06.creates])) h hF
 | build zs ps =>
  refine d5k (d:=d) (ob:=ob) (L:=L) (K:=K) hok hR ?_ hF
  have:ps.map (fun p=>p.2.2.ev σ.env)=(a06.build zs ps).opds.map (·.ev σ.env):=by simp [a06.opds]
  rw [this];exact h
 | bslice k xs uv=>exact c0r hok hR (hcl d (by simp [a06.creates])) h hF
 | ld n a=>exact g79 hok hR hob h hF
 | st n a v=>exact g74 hok hR hob h hF
 | nck a=>exact f8z hok hR h hF
 | bin ch op x y=>exact f9p hok hR h hF
 | mask m x k=>exact e3i hok hR h hF
 | beq ng x y=>exact f9q hok hR h hF
 | eqs ng ks x y=>exact f9l hok hR h hF
 | not x=>exact f8x hok hR h hF
 | neg ch x=>exact f8y hok hR h hF
 | i2i ch k x=>exact f9i hok hR h hF
 | mkfn f cap=>exact e3h hok hR h hF
 | mksl k bytes z l c=>exact e3g hok hR (hcl d (by simp [a06.creates])) h hF
 | slc k x lo hi=>exact f8u hok hR h hF
 | fad off x=>exact f9j hok hR h hF
 | iad k x i=>exact f9h hok hR h hF
 | idx x i=>exact f9g hok hR h hF
 | aix n k cnt x i=>exact f9s hok hR h hF
 | barr k zs xs=>exact e3j hok hR h hF
 | lsl k xs=>exact f9a hok hR h hF
 | ext i x=>exact f9k hok hR h hF
 | len s x=>exact f9c hok hR h hF
 | app k bytes x y=>exact e3k hok hR hob (hcl d (by simp [a06.creates])) h hF
 | mm mx x y=>exact g77 hok hR h hF
 | mp m xs=>exact g76 hok hR hob hcl h hF
 | call f args ids news=>exact s_call hok hR hob (fun n hn=>hcl n (by simpa [a06.creates] using hn)) h hF
end
def Lk (p:Prop):Prop:=p
theorem Lk.mk {p:Prop} (h:p):Lk p:=h
theorem Lk.out {p:Prop} (h:Lk p):p:=h
attribute [irreducible] Lk
structure MOp where
 ins:a06
 dst:Option Nat
 guard:Option (Nat×Bool)
def d90 (nt:Nat):Option Nat→Option Nat→Bool
 | none,none=>true
 | some d,some d'=>Nat.beq d d'&&Nat.blt d nt
 | _,_=>false
def c9c:Bool→Bool→Bool
 | true,true=>true
 | false,false=>true
 | _,_=>false
theorem d9l {a b:Bool} (h:c9c a b=true):a=b:=by cases a<;>cases b<;>simp_all [c9c]
def a5b (ops:Array Oper):Option (Nat×Bool)→Option (Nat×Bool)→Bool
 | none,none=>true
 | some (s,b),some (j,b')=>c9c b b'&&(match ops[j]? with|some o=>(match o.dst with|some d=>Nat.beq s d|none=>false)|none=>false)
 | _,_=>false
def MOp.ok (P:Program) (nt:Nat) (ops:Array Oper) (m:MOp) (o:Oper):Bool:=m.ins.ok P o.op&&d90 nt m.dst o.dst&&a5b ops m.guard o.guard
def a18 (P:Program) (nt:Nat) (ops:Array Oper):List MOp→List Oper→Bool
 | [],[]=>true
 | m::r,o::s=>m.ok P nt ops o&&a18 P nt ops r s
 | _,_=>false
def a11 (H0:Heap) (σ:St):List Nat→Bool
 | []=>true
 | n::r=>(match find n H0 with|none=>true|some _=>false)&&a5z n σ.env&&a0z n σ.heap&&a11 H0 σ r
theorem a1e {c:Ctx} {σ:St}:∀{l:List Nat},a11 c.H0 σ l=true→∀n∈l,Clean c σ n
 | [],_,n,h=>by cases h
 | m::r,h,n,hm=>by
  simp only [a11,wG] at h
  obtain ⟨⟨⟨h1,h2⟩,h3⟩,h4⟩:=h
  rcases w4.1 hm with rfl|hm
  ·refine ⟨?_,h2,h3⟩
   cases hf:find n c.H0 with
   | none=>rfl
   | some _=>rw [hf] at h1;cases h1
  ·exact a1e h4 n hm
def a5f (d:Option Nat) (env:List (Nat×V)):List (Nat×V) :=
 match d with
 | some d=>put d (.tup []) env
 | none=>env
def MOp.d (m:MOp):Nat:=m.dst.getD 0
def a3f (b want:Bool) (A B:Prop):Prop:=(b=want→A)∧(b=(!want)→B)
theorem a8r {A B:Prop}:a3f true true A B=A:=by simp [a3f]
theorem b61 {A B:Prop}:a3f true false A B=B:=by simp [a3f]
theorem a8s {A B:Prop}:a3f false true A B=B:=by simp [a3f]
theorem b62 {A B:Prop}:a3f false false A B=A:=by simp [a3f]
def b6q (P:Program) (H0:Heap) (m:MOp) (σ:St) (K:Eff→Prop):Prop :=
 bif a11 H0 σ (m.ins.creates m.d) then w9 P m.ins m.d (m.ins.opds.map (·.ev σ.env)) (fun id=>find id σ.heap) K (fun e=>Lk (K e)) else False
def b49 (P:Program) (H0:Heap) (m:MOp) (σ:St) (K:St→Prop):Prop :=
 match m.guard with
 | none=>b6q P H0 m σ fun e=>K (σ.app m.dst e)
 | some (s,want) =>
  match get s σ.env with
  | .bool b=>a3f b want (b6q P H0 m ⟨put s (.bool want) σ.env,σ.heap⟩ fun e=>K (St.app ⟨put s (.bool want) σ.env,σ.heap⟩ m.dst e)) (K ⟨a5f m.dst (put s (.bool (!want)) σ.env),σ.heap⟩)
  | .tup []=>K ⟨a5f m.dst σ.env,σ.heap⟩
  | _=>False
def runN (P:Program) (H0:Heap):List MOp→St→(St→Prop)→Prop
 | [],σ,K=>K σ
 | m::r,σ,K=>b49 P H0 m σ fun σ'=>runN P H0 r σ' K
theorem a3w {α:Type} {n:Nat} {x:α}:∀{l:List (Nat×α)},find n l=some x→put n x l=l
 | (m,y)::r,h=>by
  cases hb:Nat.beq n m with
  | true=>simp only [find,hb,vQ,xQ] at h;simp [put,hb,h]
  | false=>simp only [find,hb,vO] at h;simp [put,hb,a3w h]
theorem a8t {s:Nat} {env:List (Nat×V)} {b:Bool} (h:get s env=.bool b):find s env=some (.bool b):=by
 rw [a1m] at h
 cases hf:find s env with
 | none=>rw [hf] at h;cases h
 | some x=>rw [hf] at h;simp at h;rw [h]
section
variable {P:Program} {c:Ctx} {g:Gh} {σ:St} {a:Act} {w:World}
theorem Rel.undef' (h:Rel P c g σ a w) {d:Option Nat} (hd:∀n,d=some n→n<c.nt):Rel P c g ⟨a5f d σ.env,σ.heap⟩ (a.put d undef) w:=by
 have:=h.put hd (.tup #[] [] rfl fun i c hc=>by simp at hc:VR g w undef (.tup []))
 cases d<;>exact this
theorem d8s {s:Nat} {env:List (Nat×V)} (h:get s env=.tup []):find s env=some (.tup []):=by
 rw [a1m] at h
 cases hf:find s env with
 | none=>rw [hf] at h;cases h
 | some x=>rw [hf] at h;simp at h;rw [h]
theorem a92 {nt:Nat} {d d':Option Nat} (h:d90 nt d d'=true):d=d'∧∀n,d=some n→n<nt:=by
 cases d<;>cases d'<;>simp [d90] at h
 ·exact ⟨rfl,fun n h=>by cases h⟩
 ·refine ⟨by rw [h.1],fun n hn=>by cases hn;exact h.2⟩
theorem a6b {ops:Array Oper} {o:Oper} {s:Nat} {want b:Bool} (hg:a5b ops (some (s,want)) o.guard=true) (hR:Rel P c g σ a w) (hb:get s σ.env=.bool b) :
  Region.wanted o (yielded ops a.tmps)=c9c b want:=by
 cases hgo:o.guard with
 | none=>rw [hgo] at hg;simp [a5b] at hg
 | some p =>
  obtain ⟨j,b'⟩:=p
  rw [hgo] at hg
  simp only [a5b,wG] at hg
  obtain ⟨h1,h2⟩:=hg
  have e1:=d9l h1;subst e1
  have:∃oj,ops[j]?=some oj∧oj.dst=some s:=by
   cases hj:ops[j]? with
   | none=>rw [hj] at h2;cases h2
   | some oj =>
    rw [hj] at h2
    cases hd:oj.dst with
    | none=>simp [hd] at h2
    | some d=>simp [hd] at h2;subst h2;exact ⟨oj,rfl,hd⟩
  obtain ⟨oj,hj,hd⟩:=this
  obtain ⟨hlt,hv⟩:=hR.env s _ (a8t hb)
  have hbv:=hv.bool_inv
  have hlt':s<a.tmps.size:=by rw [hR.size];exact hlt
  have hy:a.tmps[s]?=some (.bool b):=by
   rw [←hbv];simp [zC,hlt']
  simp only [Region.wanted,hgo,yielded,hj,xZ,hd,hy]
  cases b<;>cases want<;>rfl
theorem b2s {ops:Array Oper} {o:Oper} {s:Nat} {want:Bool} (hg:a5b ops (some (s,want)) o.guard=true) (hR:Rel P c g σ a w) (hb:get s σ.env=.tup []):Region.wanted o (yielded ops a.tmps)=false:=by
 cases hgo:o.guard with
 | none=>rw [hgo] at hg;simp [a5b] at hg
 | some p =>
  obtain ⟨j,b'⟩:=p
  rw [hgo] at hg
  simp only [a5b,wG] at hg
  obtain ⟨h1,h2⟩:=hg
  have:∃oj,ops[j]?=some oj∧oj.dst=some s:=by
   cases hj:ops[j]? with
   | none=>rw [hj] at h2;cases h2
   | some oj =>
    rw [hj] at h2
    cases hd:oj.dst with
    | none=>simp [hd] at h2
    | some d=>simp [hd] at h2;subst h2;exact ⟨oj,rfl,hd⟩
  obtain ⟨oj,hj,hd⟩:=this
  obtain ⟨hlt,hv⟩:=hR.env s _ (d8s hb)
  obtain ⟨vs,hv1,hv2,_⟩:=hv.tup_inv
  have hlt':s<a.tmps.size:=by rw [hR.size];exact hlt
  have hy:a.tmps[s]?=some (.tuple vs):=by
   rw [←hv1];simp [zC,hlt']
  simp only [Region.wanted,hgo,yielded,hj,xZ,hd,hy]
  rfl
theorem a9v {ops:Array Oper} {o:Oper} (hg:a5b ops none o.guard=true) (y:Nat→Option Bool):Region.wanted o y=true:=by
 cases hgo:o.guard with
 | none=>simp [Region.wanted,hgo]
 | some p=>rw [hgo] at hg;simp [a5b] at hg
theorem a3u {ops:Array Oper} {o:Oper} {m:MOp} {Q:Exit→Act→World→Prop} {K:Eff→Prop} {K':Act→World→Prop} (hok:m.ok P c.nt ops o=true) (hR:Rel P c g σ a w)
  (h:b6q P c.H0 m σ K) (hK:∀eff,K eff→∀(g':Gh) (a':Act) (w':World),Rel P c g' (σ.app m.dst eff) a' w'→K' a' w'):o.wp P a w K' Q:=by
 simp only [MOp.ok,wG] at hok
 obtain ⟨⟨h1,h2⟩,h3⟩:=hok
 obtain ⟨hd,hlt⟩:=a92 h2
 unfold b6q at h
 cases hc:a11 c.H0 σ (m.ins.creates m.d) with
 | false=>rw [hc] at h;exact h.elim
 | true =>
  rw [hc] at h
  simp only [vQ] at h
  refine b7b m.ins (d:=m.d) h1 hR (fun id o h=>h) (a1e hc) h fun eff he g' v w' hs hf hv=>?_
  have he':K eff:=he.elim id Lk.out
  refine hK eff he' g' _ w' ?_
  rw [←hd]
  exact hR.step hlt hs hf hv
theorem b4a {ops:Array Oper} {Q:Exit→Act→World→Prop} {K:St→Prop} (hK:∀σ' g' a' w',K σ'→Rel P c g' σ' a' w'→Q .normal a' w') :
  ∀(ms:List MOp) (i:Nat) (g:Gh) (σ:St) (a:Act) (w:World),a18 P c.nt ops ms (ops.toList.drop i)=true→Rel P c g σ a w→runN P c.H0 ms σ K→wpOps P ops Q (List.range' i ms.length) a w
 | [],i,g,σ,a,w,_,hR,h=>hK σ g a w h hR
 | m :: r,i,g,σ,a,w,hok,hR,h=>by
  rw [wC,List.range'_succ,wpOps_cons]
  cases hd:ops.toList.drop i with
  | nil=>rw [hd] at hok;simp [a18] at hok
  | cons o s =>
   rw [hd] at hok
   simp only [a18,wG] at hok
   obtain ⟨hm,hr⟩:=hok
   have hi:ops[i]?=some o:=by
    have:(ops.toList.drop i)[0]?=some o:=by rw [hd];rfl
    rw [xM,vF,zW] at this
    exact this
   have hs:ops.toList.drop (i+1)=s:=by
    have:=congrArg List.tail hd
    simpa using this
   rw [←hs] at hr
   have ih:=fun g σ a w=>b4a hK r (i+1) g σ a w hr
   have hm':=hm
   simp only [MOp.ok,wG] at hm'
   obtain ⟨⟨_,h2⟩,h3⟩:=hm'
   obtain ⟨hdd,hlt⟩:=a92 h2
   simp only [wpOp,hi]
   simp only [runN,b49] at h
   cases hg:m.guard with
   | none =>
    rw [hg] at h h3
    simp only [a9v h3,if_true]
    exact .inl (a3u hm hR h fun eff he g' a' w' hR'=>ih g' _ a' w' hR' he)
   | some p =>
    obtain ⟨t,want⟩:=p
    rw [hg] at h h3
    simp only at h
    split at h
    case h_3=>exact h.elim
    case h_2 hb =>
     rw [b2s h3 hR hb]
     simp only [xN,if_false]
     exact ih g _ _ w (by rw [←hdd];exact hR.undef' hlt) h
    rename_i b hb
    obtain ⟨hx,hy⟩:=h
    rw [a6b h3 hR hb]
    have hf:=a8t hb
    by_cases hbw:b=want
    ·subst hbw
     have hw:c9c b b=true:=by cases b<;>rfl
     simp only [hw,if_true]
     have hx:=hx rfl
     rw [a3w hf] at hx
     exact .inl (a3u hm hR hx fun eff he g' a' w' hR'=>ih g' _ a' w' hR' he)
    ·have hbn:b=(!want):=by cases b<;>cases want<;>first|rfl|exact absurd rfl hbw
     have hw:c9c b want=false:=by rw [hbn];cases want<;>rfl
     simp only [hw,xN,if_false]
     have hy:=hy hbn
     rw [←hbn,a3w hf] at hy
     exact ih g _ _ w (by rw [←hdd];exact hR.undef' hlt) hy
theorem c3b {ops:Array Oper} {ms:List MOp} {Q:Exit→Act→World→Prop} {K:St→Prop} (hK:∀σ' g' a' w',K σ'→Rel P c g' σ' a' w'→Q .normal a' w')
  (hok:a18 P c.nt ops ms ops.toList=true) (hR:Rel P c g σ a w) (h:runN P c.H0 ms σ K):wpOps P ops Q (List.range ops.size) a w:=by
 have hl:∀{ms:List MOp} {l:List Oper},a18 P c.nt ops ms l=true→ms.length=l.length:=by
  intro ms
  induction ms with
  | nil =>
   intro l h
   cases l with
   | nil=>rfl
   | cons o s=>cases h
  | cons m r ih =>
   intro l h
   cases l with
   | nil=>cases h
   | cons o s =>
    simp only [a18,wG] at h
    simp only [wC,ih h.2]
 have:=b4a hK ms 0 g σ a w (by rw [wW];exact hok) hR h
 rw [hl hok,xG] at this
 rwa [List.range_eq_range']
end
def c3l (h:Heap) (id:Nat):Option a0c:=find id h
theorem mem_iff {n:Nat}:∀{l:List Nat},mem n l=true↔n∈l
 | []=>by simp [mem]
 | m::r=>by
  simp only [mem,wT,w4]
  rw [mem_iff]
  exact or_congr ⟨zR,fun h=>by rw [h];exact vE m⟩ vR
theorem a0o.mono {P:Program} {f:Nat} {args:List V} {H:Heap} {Q Q':V→Heap→Prop} (h:a0o P f args H Q) (hq:∀r H',Q r H'→Q' r H'):a0o P f args H Q' :=
 ⟨h.1,fun g w vals h1 h2 h3=>(h.2 g w vals h1 h2 h3).mono fun _ _ ⟨v,r,H',g',k1,k2,k3⟩=>⟨v,r,H',g',k1,hq _ _ k2,k3⟩⟩
theorem Rel.sub {P:Program} {c:Ctx} {g:Gh} {σ:St} {a:Act} {w:World} {τ:St} (h:Rel P c g σ a w) (he:∀s x,find s τ.env=some x→find s σ.env=some x) (hh:∀s o,find s τ.heap=some o→find s σ.heap=some o):Rel P c g τ a w :=
 ⟨h.size,h.dfr,fun s x hx=>h.env s x (he s x hx),h.hp.sub hh,⟨h.fr.os,h.fr.tape,h.fr.output,h.fr.size,h.fr.old,fun id o ho=>h.fr.own id o (hh id o ho),h.fr.sup,h.fr.sub,h.fr.par⟩⟩
section
variable {K L:V→Prop} {x y z:V}
theorem c9v (h:b91 x y z K):∃v,K v∧b91 x y z (fun u=>u=v):=by
  unfold b91 at *
  split at h
  · split at h
    · exact ⟨_,h,rfl⟩
    · rename_i t _ _ _
      cases t
      · exact ⟨_,h,rfl⟩
      · exact ⟨_,h,rfl⟩
  · exact h.elim
theorem b5s {n:Option Nat} {off:Nat} {cs:List V} (h:part n off cs K):∃v,K v∧part n off cs (fun u=>u=v):=by
  unfold part at *
  cases n with
  | none =>
    simp only at h ⊢
    split at h
    · exact ⟨_,h,rfl⟩
    · exact h.elim
  | some n =>
    simp only at h ⊢
    cases hb:Nat.ble (off+n) cs.length with
    | true=>rw [hb] at h;exact ⟨_,h,rfl⟩
    | false=>rw [hb] at h;exact h.elim
theorem d3t {n:Option Nat} {ob:Nat→Option a0c} (h:sLd n x ob K L):∃v,(K v∨L v)∧sLd n x ob (fun u=>u=v) (fun u=>u=v):=by
  cases x<;>try (exact h.elim)
  case ptr id off =>
    cases ho:ob id with
    | none=>simp only [sLd,ho] at h
    | some o =>
      cases o<;>simp only [sLd,ho] at h ⊢
      obtain ⟨v,h1,h2⟩:=b5s h;exact ⟨v,.inl h1,h2⟩
  case eptr y off=>obtain ⟨v,h1,h2⟩:=b5s h;exact ⟨v,.inl h1,h2⟩
  case optr id k i off =>
    cases ho:ob id with
    | none=>simp only [sLd,ho] at h
    | some o =>
      cases o<;>simp only [sLd,ho] at h ⊢
      rename_i k' xs t0
      cases hk:Nat.beq k k' with
      | false=>rw [hk] at h;exact h.elim
      | true =>
        rw [hk] at h
        simp only [vQ] at h ⊢
        obtain ⟨q,h1,h2⟩:=h
        obtain ⟨v,h3,h4⟩:=b5s h2
        exact ⟨v,.inr h3,q,h1,h4⟩
theorem e3l {n:Nat} {ob:Nat→Option a0c} {K L:Nat→a0c→Prop} (h:sSt n x y ob K L):∃id o,(K id o∨L id o)∧sSt n x y ob (fun i p=>i=id∧p=o) (fun i p=>i=id∧p=o):=by
  unfold sSt at *
  cases hc:(Nat.beq y.cells.length n&&y.cells.all V.one) with
  | false=>rw [hc] at h;exact h.elim
  | true =>
    rw [hc] at h
    simp only [vQ] at h ⊢
    cases x<;>try (exact h.elim)
    case ptr id off =>
      cases ho:ob id with
      | none=>simp only [ho] at h
      | some o =>
        cases o<;>simp only [ho] at h ⊢
        rename_i cs ty
        cases hb:Nat.ble (off+n) cs.length with
        | false=>rw [hb] at h;exact h.elim
        | true=>rw [hb] at h;exact ⟨_,_,.inl h,rfl,rfl⟩
    case optr id k i off =>
      cases ho:ob id with
      | none=>simp only [ho] at h
      | some o =>
        cases o<;>simp only [ho] at h ⊢
        rename_i k' xs t0
        cases hk:(Nat.beq k k'&&y.sealed) with
        | false=>rw [hk] at h;exact h.elim
        | true =>
          rw [hk] at h
          simp only [vQ] at h ⊢
          cases hz:(Nat.beq off 0&&Nat.beq n k) with
          | true=>rw [hz] at h;simp only [vQ] at h ⊢;exact ⟨_,_,.inl h.2,h.1,rfl,rfl⟩
          | false =>
            rw [hz] at h;simp only [vO] at h ⊢
            obtain ⟨cs,h1,h2,h3⟩:=h
            exact ⟨_,_,.inr h3,cs,h1,h2,rfl,rfl⟩
theorem d5p (h:e0s x K):∃v,K v∧e0s x (fun u=>u=v):=by
  cases x<;>first|exact h.elim|exact ⟨_,h,rfl⟩
theorem c9x {m:Nat} {k:IntKind} (h:b93 m k x K):∃v,K v∧b93 m k x (fun u=>u=v):=by
  cases x<;>try (exact h.elim)
  rename_i k' a
  simp only [b93] at h ⊢
  cases hk:kEq k k' with
  | false=>rw [hk] at h;exact h.elim
  | true=>rw [hk] at h;exact ⟨_,h,rfl⟩
theorem d64 {ng:Bool} (h:e0w ng x y K):∃v,K v∧e0w ng x y (fun u=>u=v):=by
  cases x<;>try (exact h.elim)
  cases y<;>try (exact h.elim)
  exact ⟨_,h,rfl⟩
theorem d5z {ng:Bool} {ks:List Nat} (h:d60 ng ks x y K):∃v,K v∧d60 ng ks x y (fun u=>u=v):=by
  cases x<;>try (exact h.elim)
  cases y<;>try (exact h.elim)
  rename_i cs ds
  simp only [d60] at h ⊢
  cases he:a0q ks cs ds with
  | none=>rw [he] at h;exact h.elim
  | some t=>rw [he] at h;exact ⟨_,h,rfl⟩
theorem d5n (h:e0q x K):∃v,K v∧e0q x (fun u=>u=v):=by
  cases x<;>first|exact h.elim|exact ⟨_,h,rfl⟩
theorem d5o {ch:Bool} (h:e0r ch x K):∃v,K v∧e0r ch x (fun u=>u=v):=by
  cases x<;>try (exact h.elim)
  cases ch
  · exact ⟨_,h,rfl⟩
  · exact ⟨_,h.2,h.1,rfl⟩
theorem d5v {ch:Bool} {k:IntKind} (h:e0u ch k x K):∃v,K v∧e0u ch k x (fun u=>u=v):=by
  cases x<;>try (exact h.elim)
  cases ch
  · exact ⟨_,h,rfl⟩
  · exact ⟨_,h.2,h.1,rfl⟩
theorem d5w {off:Nat} (h:e0v off x K):∃v,K v∧e0v off x (fun u=>u=v):=by
  cases x<;>first|exact h.elim|exact ⟨_,h,rfl⟩
theorem d5t (h:e0t x y K):∃v,K v∧e0t x y (fun u=>u=v):=by
  cases x<;>try (exact h.elim)
  cases y<;>try (exact h.elim)
  exact ⟨_,h.2,h.1,rfl⟩
theorem d66 {n:Option Nat} {k cnt:Nat} (h:e0x n k cnt x y K):∃v,K v∧e0x n k cnt x y (fun u=>u=v):=by
  cases x<;>try (exact h.elim)
  cases y<;>try (exact h.elim)
  obtain ⟨h1,h2⟩:=h
  obtain ⟨v,h3,h4⟩:=b5s h2
  exact ⟨v,h3,h1,h4⟩
theorem d5x {i:Nat} (h:d5y i x K):∃v,K v∧d5y i x (fun u=>u=v):=by
  cases x<;>try (exact h.elim)
  rename_i cs
  simp only [d5y] at h ⊢
  cases hd:cs.drop i with
  | nil=>rw [hd] at h;exact h.elim
  | cons c r=>rw [hd] at h;exact ⟨_,h,rfl⟩
theorem d5s {s:Bool} (h:sLen s x K):∃v,K v∧sLen s x (fun u=>u=v):=by
  cases x<;>cases s<;>first|exact h.elim|exact ⟨_,h,rfl⟩
theorem e3m {mx:Bool} (h:sMm mx x y K):∃v,K v∧sMm mx x y (fun u=>u=v):=by
  cases x<;>try (exact h.elim)
  cases y<;>try (exact h.elim)
  rename_i k a k' b
  simp only [sMm] at h ⊢
  cases hk:kEq k k' with
  | false=>rw [hk] at h;exact h.elim
  | true=>rw [hk] at h;exact ⟨_,h,rfl⟩
theorem d5u {k:Nat} (h:c95 k x y K L):∃v,(K v∨L v)∧c95 k x y (fun u=>u=v) (fun u=>u=v):=by
  cases y<;>try (exact h.elim)
  cases x<;>try (exact h.elim)
  case int.sl =>
    obtain ⟨h1,q,h2,h3,h4⟩:=h
    exact ⟨_,.inr h4,h1,q,h2,h3,rfl⟩
  case int.osl k' n id k2 lo m =>
    simp only [c95] at h ⊢
    cases hk:Nat.beq k k2 with
    | false=>rw [hk] at h;exact h.elim
    | true=>rw [hk] at h;exact ⟨_,.inl h.2,h.1,rfl⟩
theorem d5m {k:Nat} {lo hi:Bool} {r:List V} (h:d3s k lo hi x r K):∃v,K v∧d3s k lo hi x r (fun u=>u=v):=by
  cases x<;>try (exact h.elim)
  case sl xs =>
    simp only [d3s] at h ⊢
    cases hb:bounds lo hi xs.length r with
    | none=>rw [hb] at h;exact h.elim
    | some p=>rw [hb] at h;exact ⟨_,h.2.2,h.1,h.2.1,rfl⟩
  case osl id k' l n =>
    simp only [d3s] at h ⊢
    cases hb:bounds lo hi n r with
    | none=>rw [hb] at h;exact h.elim
    | some p =>
      rw [hb] at h
      simp only at h ⊢
      cases hk:Nat.beq k k' with
      | false=>rw [hk] at h;exact h.elim
      | true=>rw [hk] at h;exact ⟨_,h.2,h.1,rfl⟩
theorem d63 {ch:Bool} {op:BinOp} (h:d3u ch op x y K):∃v,K v∧d3u ch op x y (fun u=>u=v):=by
  cases x<;>try (exact h.elim)
  case int k a =>
    cases y<;>try (exact h.elim)
    rename_i k' b
    simp only [d3u] at h ⊢
    cases op <;> simp only at h ⊢<;>first
      | exact ⟨_,h.2,h.1,rfl⟩
      | (cases hk:kEq k k'<;>rw [hk] at h<;>first
          | exact h.elim
          | (simp only [vQ] at h ⊢
             first
              | exact ⟨_,h,rfl⟩
              | (cases ch
                 · first|exact ⟨_,h,rfl⟩|exact ⟨_,h.2,h.1,rfl⟩
                 · first|exact ⟨_,h,rfl⟩|exact ⟨_,h.2,h.1,rfl⟩)))
  case str a =>
    cases y<;>try (exact h.elim)
    simp only [d3u] at h ⊢
    cases op<;>simp only at h ⊢<;>first|exact ⟨_,h,rfl⟩|exact ⟨_,h.2,h.1,rfl⟩|exact h.elim
end
section
variable {K:Eff→Prop} {x y:V} {d:Nat}
theorem d61 (h:d62 d x K):∃v,K v∧d62 d x (fun u=>u=v):=by
  cases x<;>first|exact h.elim|exact ⟨_,h,rfl⟩
theorem c9w {k bytes:Nat} {z:V} (h:b92 k bytes d z x y K):∃v,K v∧b92 k bytes d z x y (fun u=>u=v):=by
  unfold b92 at *
  split at h
  · exact ⟨_,h.2,h.1,rfl⟩
  · exact h.elim
theorem d65 {k bytes:Nat} {ty:Option TypeId} {ob:Nat→Option a0c} (h:c0t k bytes d ty x y ob K):∃v,K v∧c0t k bytes d ty x y ob (fun u=>u=v):=by
  unfold c0t at *
  cases ha:a5l k y ob with
  | none=>rw [ha] at h;exact h.elim
  | some ys =>
    rw [ha] at h
    simp only at h ⊢
    obtain ⟨h0,h⟩:=h
    cases x<;>try (exact h.elim)
    case nils=>exact ⟨_,h.2,h0,h.1,rfl⟩
    case osl id k' lo n =>
      cases ho:ob id with
      | none=>simp only [ho] at h
      | some o =>
        cases o<;>simp only [ho] at h ⊢
        rename_i k'' xs t0
        cases hk:(Nat.beq k k'&&Nat.beq k k'') with
        | false=>rw [hk] at h;exact h.elim
        | true=>rw [hk] at h;exact ⟨_,h.2,h0,h.1,rfl⟩
theorem c1l {x:V} {ob:Nat→Option a0c} {K:KD→List (V×V)→Prop} (h:a9r x ob K):∃kd es,K kd es∧∀K':KD→List (V×V)→Prop,K' kd es→a9r x ob K':=by
  unfold a9r at h
  split at h
  · exact ⟨_,_,h,fun K' h=>h⟩
  · split at h
    · rename_i ho
      refine ⟨_,_,h,fun K' h'=>?_⟩
      simp only [a9r,ho];exact h'
    · rename_i ho
      refine ⟨_,_,h,fun K' h'=>?_⟩
      simp only [a9r,ho];exact h'
    · exact h.elim
  · exact h.elim
theorem d5r {op:b8k} {d:Nat} {vs:List V} {ob:Nat→Option a0c} {K L:Eff→Prop} (hn:op≠.nxt) (hn2:∀b,op≠.isn b) (h:a1x op d vs ob K L):∃e,K e∧a1x op d vs ob (fun u=>u=e) (fun u=>u=e):=by
  unfold a1x at h
  split at h
  · exact ⟨_,h,rfl⟩
  · rename_i kd ok z x k
    split at h
    · cases hk:kd.is k with
      | false=>rw [hk] at h;exact h.elim
      | true=>rw [hk] at h;exact ⟨_,h,by simp only [a1x,hk,vQ]⟩
    · rename_i m p kd' es
      cases hk:kd.is k&&kd'.is k&&z.isNilS with
      | false=>rw [hk] at h;exact h.elim
      | true=>rw [hk] at h;exact ⟨_,h,by simp only [a1x,hk,vQ]⟩
    · rename_i x hx
      obtain ⟨kd',es,h1,h2⟩:=c1l h
      cases hk:kd.is k&&kd'.is k with
      | false=>rw [hk] at h1;exact h1.elim
      | true =>
        rw [hk] at h1
        refine ⟨_,h1,?_⟩
        simp only [a1x]
        exact h2 _ (by simp only [hk,vQ])
  · rename_i kd id k v
    split at h
    · rename_i kd' es ho
      cases hk:kd.is k&&kd'.is k&&v.sealed with
      | false=>rw [hk] at h;exact h.elim
      | true=>rw [hk] at h;exact ⟨_,h,by simp only [a1x,ho,hk,vQ]⟩
    · exact h.elim
  · rename_i kd id k
    split at h
    · rename_i kd' es ho
      cases hk:kd.is k&&kd'.is k with
      | false=>rw [hk] at h;exact h.elim
      | true=>rw [hk] at h;exact ⟨_,h,by simp only [a1x,ho,hk,vQ]⟩
    · exact h.elim
  · rename_i x
    split at h
    · exact ⟨_,h,rfl⟩
    · rename_i x hx
      obtain ⟨kd',es,h1,h2⟩:=c1l h
      refine ⟨_,h1.2,?_⟩
      simp only [a1x]
      exact h2 _ ⟨h1.1,rfl⟩
  · split at h
    · exact ⟨_,h,rfl⟩
    · exact ⟨_,h,rfl⟩
    · exact h.elim
  · exact absurd rfl hn
  · split at h
    · rename_i ho;exact ⟨_,h,by simp only [a1x,ho]⟩
    · exact h.elim
  · exact absurd rfl (hn2 _)
  · split at h
    · rename_i ho;exact ⟨_,h,by simp only [a1x,ho]⟩
    · exact h.elim
  · rename_i kd id k j q n
    split at h
    · rename_i kd' es q' xs ty ho ho2
      cases hk:kd.is k&&kd'.is k&&(Nat.beq q q'&&Nat.beq n xs.length&&!Nat.beq id j) with
      | false=>rw [hk] at h;exact h.elim
      | true=>rw [hk] at h;exact ⟨_,h,by simp only [a1x,ho,ho2,hk,vQ]⟩
    · rename_i z p kd' es q' xs ty ho ho2
      cases hk:kd.is k&&kd'.is k&&(Nat.beq q q'&&Nat.beq n xs.length&&!Nat.beq id j)&&Nat.beq q p with
      | false=>rw [hk] at h;exact h.elim
      | true=>rw [hk] at h;exact ⟨_,h,by simp only [a1x,ho,ho2,hk,vQ]⟩
    · exact h.elim
  · exact ⟨_,h,rfl⟩
  · rename_i k bytes id k' lo n y
    split at h
    · rename_i ys hs
      obtain ⟨h0,h⟩:=h
      split at h
      · rename_i k'' xs t ho
        cases hk:Nat.beq k k'&&Nat.beq k k''&&!y.has id with
        | false=>rw [hk] at h;exact h.elim
        | true=>rw [hk] at h;exact ⟨_,h.2,by simp only [a1x,hs,ho,hk,vQ];exact ⟨h0,h.1,trivial⟩⟩
      · exact h.elim
    · exact h.elim
  · exact h.elim
end
def b1u (P:Program) (f:V) (args:List V) (ids news:List Nat) (ob:Nat→Option a0c) (L:Eff→Prop):Prop :=
 match f with
 | .fn (.func n) cap=>match b6j ids ob with
  | some H=>∃r H',a0o P n (args++cap) H (fun r' H''=>r'=r∧H''=H')∧a9u H' ids news=true∧L ⟨r,ids,H'⟩
  | none=>False
 | .fn (.yield n) fs=>match b6j ids ob with
  | some H=>∃r H',a0o P n (fs++args) H (fun r' H''=>r'=r∧H''=H')∧a9u H' ids news=true∧L ⟨r,ids,H'⟩
  | none=>False
 | _=>False
def a0y (P:Program) (i:a06) (d:Nat) (vs:List V) (ob:Nat→Option a0c) (K L:Eff→Prop):Prop :=
 match i,vs with
 | .call _ _ ids news,f::args=>b1u P f args ids news ob L
 | .mp .nxt _,_=>False
 | .mp (.isn _) _,_=>False
 | i,vs=>w9 P i d vs ob K L
theorem a1k (v:V):(fun r=>evl r=evl v)=fun u=>u=v:=by
 funext r;simp [evl]
theorem d8z (id:Nat) (o:a0c):(fun i p=>eup i p=eup id o)=fun i p=>i=id∧p=o:=by
 funext i p;simp [eup]
theorem c5g {P:Program} {i:a06} {d:Nat} {vs:List V} {ob:Nat→Option a0c} {K L:Eff→Prop} (h:a0y P i d vs ob K L) :
  ∃e,(K e∨L e)∧w9 P i d vs ob (fun u=>u=e) (fun u=>u=e):=by
 cases i with
 | mv x =>
  match vs,h with
  | [y],h=>exact ⟨_,.inl h,rfl⟩
  | [],h=>exact h.elim
  | _::_::_,h=>exact h.elim
 | pick a b c =>
  match vs,h with
  | [x,y,z],h=>obtain ⟨v,h1,h2⟩:=c9v (K:=fun x=>K (evl x)) h;exact ⟨evl v,.inl h1,by simp only [w9,a1k];exact h2⟩
  | [],h=>exact h.elim
  | [_],h=>exact h.elim
  | [_,_],h=>exact h.elim
  | _::_::_::_::_,h=>exact h.elim
 | alloc zs=>exact ⟨_,.inl (by simpa only [a0y,w9] using h),by simp only [w9]⟩
 | box a =>
  match vs,h with
  | [x],h=>obtain ⟨v,h1,h2⟩:=d61 h;exact ⟨v,.inl h1,h2⟩
  | [],h=>exact h.elim
  | _::_::_,h=>exact h.elim
 | build zs ps =>
  simp only [a0y,w9] at h ⊢
  cases hf:a8z zs ((ps.zip vs).map fun p=>(p.1.1,p.1.2.1,p.2)) with
  | none=>rw [hf] at h;exact h.elim
  | some cs=>rw [hf] at h;exact ⟨_,.inl h,rfl⟩
 | bslice k xs uv =>
  simp only [a0y,w9] at h ⊢
  cases hf:vs.all (a2z k) with
  | false=>rw [hf] at h;exact h.elim
  | true=>rw [hf] at h;exact ⟨_,.inl h,rfl⟩
 | ld n a =>
  match vs,h with
  | [x],h=>obtain ⟨v,h1,h2⟩:=d3t (K:=fun x=>K (evl x)) (L:=fun x=>L (evl x)) h;exact ⟨evl v,h1,by simp only [w9,a1k];exact h2⟩
  | [],h=>exact h.elim
  | _::_::_,h=>exact h.elim
 | st n a b =>
  match vs,h with
  | [x,y],h=>obtain ⟨id,o,h1,h2⟩:=e3l (K:=fun i o=>K (eup i o)) (L:=fun i o=>L (eup i o)) h;exact ⟨eup id o,h1,by simp only [w9,d8z];exact h2⟩
  | [],h=>exact h.elim
  | [_],h=>exact h.elim
  | _::_::_::_,h=>exact h.elim
 | nck a =>
  match vs,h with
  | [x],h=>obtain ⟨v,h1,h2⟩:=d5p (K:=fun x=>K (evl x)) h;exact ⟨evl v,.inl h1,by simp only [w9,a1k];exact h2⟩
  | [],h=>exact h.elim
  | _::_::_,h=>exact h.elim
 | bin ch op a b =>
  match vs,h with
  | [x,y],h=>obtain ⟨v,h1,h2⟩:=d63 (K:=fun x=>K (evl x)) h;exact ⟨evl v,.inl h1,by simp only [w9,a1k];exact h2⟩
  | [],h=>exact h.elim
  | [_],h=>exact h.elim
  | _::_::_::_,h=>exact h.elim
 | mask m a k =>
  match vs,h with
  | [x],h=>obtain ⟨v,h1,h2⟩:=c9x (K:=fun x=>K (evl x)) h;exact ⟨evl v,.inl h1,by simp only [w9,a1k];exact h2⟩
  | [],h=>exact h.elim
  | _::_::_,h=>exact h.elim
 | beq ng a b =>
  match vs,h with
  | [x,y],h=>obtain ⟨v,h1,h2⟩:=d64 (K:=fun x=>K (evl x)) h;exact ⟨evl v,.inl h1,by simp only [w9,a1k];exact h2⟩
  | [],h=>exact h.elim
  | [_],h=>exact h.elim
  | _::_::_::_,h=>exact h.elim
 | eqs ng ks a b =>
  match vs,h with
  | [x,y],h=>obtain ⟨v,h1,h2⟩:=d5z (K:=fun x=>K (evl x)) h;exact ⟨evl v,.inl h1,by simp only [w9,a1k];exact h2⟩
  | [],h=>exact h.elim
  | [_],h=>exact h.elim
  | _::_::_::_,h=>exact h.elim
 | not a =>
  match vs,h with
  | [x],h=>obtain ⟨v,h1,h2⟩:=d5n (K:=fun x=>K (evl x)) h;exact ⟨evl v,.inl h1,by simp only [w9,a1k];exact h2⟩
  | [],h=>exact h.elim
  | _::_::_,h=>exact h.elim
 | neg ch a =>
  match vs,h with
  | [x],h=>obtain ⟨v,h1,h2⟩:=d5o (K:=fun x=>K (evl x)) h;exact ⟨evl v,.inl h1,by simp only [w9,a1k];exact h2⟩
  | [],h=>exact h.elim
  | _::_::_,h=>exact h.elim
 | i2i ch k a =>
  match vs,h with
  | [x],h=>obtain ⟨v,h1,h2⟩:=d5v (K:=fun x=>K (evl x)) h;exact ⟨evl v,.inl h1,by simp only [w9,a1k];exact h2⟩
  | [],h=>exact h.elim
  | _::_::_,h=>exact h.elim
 | mkfn f cap=>exact ⟨_,.inl (by simpa only [a0y,w9] using h),by simp only [w9]⟩
 | mksl k bytes z a b =>
  match vs,h with
  | [x,y],h=>obtain ⟨v,h1,h2⟩:=c9w h;exact ⟨v,.inl h1,h2⟩
  | [],h=>exact h.elim
  | [_],h=>exact h.elim
  | _::_::_::_,h=>exact h.elim
 | slc k a lo hi =>
  match vs,h with
  | x::r,h=>obtain ⟨v,h1,h2⟩:=d5m (K:=fun x=>K (evl x)) h;exact ⟨evl v,.inl h1,by simp only [w9,a1k];exact h2⟩
  | [],h=>exact h.elim
 | fad off a =>
  match vs,h with
  | [x],h=>obtain ⟨v,h1,h2⟩:=d5w (K:=fun x=>K (evl x)) h;exact ⟨evl v,.inl h1,by simp only [w9,a1k];exact h2⟩
  | [],h=>exact h.elim
  | _::_::_,h=>exact h.elim
 | iad k a b =>
  match vs,h with
  | [x,y],h=>obtain ⟨v,h1,h2⟩:=d5u (K:=fun x=>K (evl x)) (L:=fun x=>L (evl x)) h;exact ⟨evl v,h1,by simp only [w9,a1k];exact h2⟩
  | [],h=>exact h.elim
  | [_],h=>exact h.elim
  | _::_::_::_,h=>exact h.elim
 | idx a b =>
  match vs,h with
  | [x,y],h=>obtain ⟨v,h1,h2⟩:=d5t (K:=fun x=>K (evl x)) h;exact ⟨evl v,.inl h1,by simp only [w9,a1k];exact h2⟩
  | [],h=>exact h.elim
  | [_],h=>exact h.elim
  | _::_::_::_,h=>exact h.elim
 | aix n k cnt a b =>
  match vs,h with
  | [x,y],h=>obtain ⟨v,h1,h2⟩:=d66 (K:=fun x=>K (evl x)) h;exact ⟨evl v,.inl h1,by simp only [w9,a1k];exact h2⟩
  | [],h=>exact h.elim
  | [_],h=>exact h.elim
  | _::_::_::_,h=>exact h.elim
 | barr k zs xs =>
  simp only [a0y,w9] at h ⊢
  cases hf:a8z zs (a1u k 0 vs) with
  | none=>rw [hf] at h;exact h.elim
  | some cs=>rw [hf] at h;exact ⟨_,.inl h,rfl⟩
 | lsl k xs =>
  simp only [a0y,w9] at h ⊢
  cases hf:vs.all (a2z k) with
  | false=>rw [hf] at h;exact h.elim
  | true=>rw [hf] at h;exact ⟨_,.inl h,rfl⟩
 | ext i a =>
  match vs,h with
  | [x],h=>obtain ⟨v,h1,h2⟩:=d5x (K:=fun x=>K (evl x)) h;exact ⟨evl v,.inl h1,by simp only [w9,a1k];exact h2⟩
  | [],h=>exact h.elim
  | _::_::_,h=>exact h.elim
 | len s a =>
  match vs,h with
  | [x],h=>obtain ⟨v,h1,h2⟩:=d5s (K:=fun x=>K (evl x)) h;exact ⟨evl v,.inl h1,by simp only [w9,a1k];exact h2⟩
  | [],h=>exact h.elim
  | _::_::_,h=>exact h.elim
 | app k bytes a b =>
  match vs,h with
  | [x,y],h=>obtain ⟨v,h1,h2⟩:=d65 h;exact ⟨v,.inl h1,h2⟩
  | [],h=>exact h.elim
  | [_],h=>exact h.elim
  | _::_::_::_,h=>exact h.elim
 | mm mx a b =>
  match vs,h with
  | [x,y],h=>obtain ⟨v,h1,h2⟩:=e3m (K:=fun x=>K (evl x)) h;exact ⟨evl v,.inl h1,by simp only [w9,a1k];exact h2⟩
  | [],h=>exact h.elim
  | [_],h=>exact h.elim
  | _::_::_::_,h=>exact h.elim
 | mp m xs =>
  by_cases hm:m=.nxt
  ·subst hm;exact h.elim
  ·by_cases hm2:∃b,m=.isn b
   ·obtain ⟨b,rfl⟩:=hm2;exact h.elim
   ·have h':a1x m d vs ob K L:=by
     cases m<;>first|exact h|exact absurd rfl hm|exact absurd ⟨_,rfl⟩ hm2
    obtain ⟨e,h1,h2⟩:=d5r hm (fun b e=>hm2 ⟨b,e⟩) h'
    exact ⟨e,.inl h1,h2⟩
 | call f args ids news =>
  match vs,h with
  | [],h=>exact h.elim
  | g::r,h =>
   simp only [a0y,b1u] at h
   split at h
   ·split at h
    ·rename_i n cap H hH
     obtain ⟨r',H',h1,h2,h3⟩:=h
     refine ⟨_,.inr h3,?_⟩
     simp only [w9,b0y,hH]
     exact h1.mono fun r2 H2 ⟨e1,e2⟩=>by subst e1;subst e2;simp only [h2,vQ]
    ·exact h.elim
   ·split at h
    ·rename_i n cap H hH
     obtain ⟨r',H',h1,h2,h3⟩:=h
     refine ⟨_,.inr h3,?_⟩
     simp only [w9,b0y,hH]
     exact h1.mono fun r2 H2 ⟨e1,e2⟩=>by subst e1;subst e2;simp only [h2,vQ]
    ·exact h.elim
   ·exact h.elim
theorem c5e {ob ob':Nat→Option a0c}:∀{ids:List Nat},(∀id∈ids,ob id=ob' id)→b6j ids ob=b6j ids ob'
 | [],_=>rfl
 | n::r,h=>by
  have h1:=h n xJ
  have h2:=c5e (ids:=r) fun id hid=>h id (xD _ hid)
  simp only [b6j,h1,h2]
theorem b8a {ob ob':Nat→Option a0c} {k:Nat} {y:V} (h:∀id∈vid y,ob id=ob' id):a5l k y ob=a5l k y ob':=by
 cases y<;>try rfl
 rename_i id k' lo n
 have:=h id (by simp [vid])
 simp only [a5l,this]
theorem c1k {ob ob':Nat→Option a0c} {x:V} {K:KD→List (V×V)→Prop} (h:∀id∈vid x,ob id=ob' id):a9r x ob K=a9r x ob' K:=by
 cases x<;>try rfl
 rename_i id
 have:=h id (by simp [vid])
 simp only [a9r,this]
theorem d5q {ob ob':Nat→Option a0c} {op:b8k} {xs:List Opd} {d:Nat} {vs:List V} {K L:Eff→Prop} (h:∀id∈(a06.mp op xs).touch vs,ob id=ob' id):a1x op d vs ob K L=a1x op d vs ob' K L:=by
 unfold a1x
 split
 ·rfl
 ·split
  ·rfl
  ·rfl
  ·exact c1k fun id hid=>h id (by simpa [a06.touch] using hid)
 ·have:=h _ (by simp [a06.touch,vid];rfl)
  simp only [this]
 ·have:=h _ (by simp [a06.touch,vid];rfl)
  simp only [this]
 ·split
  ·rfl
  ·exact c1k fun id hid=>h id (by simpa [a06.touch] using hid)
 ·rfl
 ·have:=h _ (by simp [a06.touch,vid];rfl)
  simp only [this]
 ·have:=h _ (by simp [a06.touch,vid];rfl)
  simp only [this]
 ·rfl
 ·rfl
 ·rename_i kd id k j q n
  have h1:=h id (by simp [a06.touch,vid])
  have h2:=h j (by simp [a06.touch,vid])
  simp only [h1,h2]
 ·rfl
 ·rename_i k bytes id k' lo n y
  have h1:=h id (by simp [a06.touch,vid])
  have h2:=b8a (k:=k) (ob:=ob) (ob':=ob') (y:=y) fun i hi=>h i (by simp [a06.touch,hi])
  simp only [h1,h2]
 ·rfl
theorem c9r {P:Program} {i:a06} {d:Nat} {vs:List V} {ob ob':Nat→Option a0c} {K L:Eff→Prop} (ht:∀id∈i.touch vs,ob id=ob' id) (h:w9 P i d vs ob K L):w9 P i d vs ob' K L:=by
 cases i with
 | ld n a =>
  rcases vs with _|⟨x,_|⟨y,r⟩⟩
  ·exact h.elim
  ·change sLd n x ob _ _ at h
   change sLd n x ob' _ _
   cases x<;>try exact h
   ·rename_i id off
    have:=ht id (by simp [a06.touch,vid])
    simp only [sLd,this] at h ⊢;exact h
   ·rename_i id k i off
    have:=ht id (by simp [a06.touch,vid])
    simp only [sLd,this] at h ⊢;exact h
  ·exact h.elim
 | st n a b =>
  rcases vs with _|⟨x,_|⟨y,_|⟨z,r⟩⟩⟩
  ·exact h.elim
  ·exact h.elim
  ·change sSt n x y ob (fun id o=>K (eup id o)) (fun id o=>L (eup id o)) at h
   change sSt n x y ob' (fun id o=>K (eup id o)) (fun id o=>L (eup id o))
   cases x<;>try exact h
   ·rename_i id off
    have:=ht id (by simp [a06.touch,vid])
    simp only [sSt,this] at h ⊢;exact h
   ·rename_i id k i off
    have:=ht id (by simp [a06.touch,vid])
    simp only [sSt,this] at h ⊢;exact h
  ·exact h.elim
 | app k bytes a b ty =>
  rcases vs with _|⟨x,_|⟨y,_|⟨z,r⟩⟩⟩
  ·exact h.elim
  ·exact h.elim
  ·change c0t k bytes d ty x y ob _ at h
   change c0t k bytes d ty x y ob' _
   have hy:=b8a (k:=k) (ob:=ob) (ob':=ob') (y:=y) fun id hid=>ht id (by simp [a06.touch,hid])
   unfold c0t at h ⊢
   rw [←hy]
   cases ha:a5l k y ob with
   | none=>rw [ha] at h;exact h
   | some ys =>
    rw [ha] at h
    simp only at h ⊢
    obtain ⟨h0,h⟩:=h
    refine ⟨h0,?_⟩
    cases x<;>try exact h
    rename_i id k' lo n
    have:=ht id (by simp [a06.touch,vid])
    simp only [this] at h ⊢;exact h
  ·exact h.elim
 | call f args ids news =>
  rcases vs with _|⟨x,r⟩
  ·exact h.elim
  ·change b0y P x r ids news ob _ at h
   change b0y P x r ids news ob' _
   have:=c5e (ids:=ids) (ob:=ob) (ob':=ob') fun id hid=>ht id (by simpa [a06.touch] using hid)
   unfold b0y at h ⊢
   rw [this] at h
   exact h
 | mp m xs =>
  change a1x m d vs ob K L at h
  change a1x m d vs ob' K L
  rwa [d5q (xs:=xs) (ob:=ob) (ob':=ob') ht] at h
 | alloc zs=>simp only [w9] at h ⊢;exact h
 | mkfn f cap=>simp only [w9] at h ⊢;exact h
 | build zs ps=>simp only [w9] at h ⊢;exact h
 | bslice k xs uv=>simp only [w9] at h ⊢;exact h
 | barr k zs xs=>simp only [w9] at h ⊢;exact h
 | lsl k xs=>simp only [w9] at h ⊢;exact h
 | slc k a lo hi=>rcases vs with _|⟨x,r⟩<;>exact h
 | _=>rcases vs with _|⟨x,_|⟨y,_|⟨z,_|⟨u,r⟩⟩⟩⟩<;>exact h
structure Ent where
 dst:Option Nat
 eff:Option Eff
 uses:List Nat
 touch:List Nat
 made:List Nat
def Ent.app (e:Ent) (σ:St):St :=
 match e.eff with
 | some f=>σ.app e.dst f
 | none=>⟨a5f e.dst σ.env,σ.heap⟩
def Ent.ids (e:Ent):List Nat :=
 match e.eff with
 | some f=>f.ids
 | none=>[]
def slotsOf:List Opd→List Nat
 | []=>[]
 | .t n::r=>n::slotsOf r
 | _::r=>slotsOf r
def f4o (P:Program) (H0:Heap) (m:MOp) (σ:St) (gs:List Nat) (k:Ent→Prop):Prop :=
 bif a11 H0 σ (m.ins.creates m.d) then
  a0y P m.ins m.d (m.ins.opds.map (·.ev σ.env)) (c3l σ.heap) (fun f=>k ⟨m.dst,some f,gs++slotsOf m.ins.opds,m.ins.touch (m.ins.opds.map (·.ev σ.env)),m.ins.creates m.d⟩)
   (fun f=>k ⟨m.dst,some f,gs++slotsOf m.ins.opds,m.ins.touch (m.ins.opds.map (·.ev σ.env)),m.ins.creates m.d⟩)
 else False
def c5o (P:Program) (H0:Heap):List MOp→List Ent→St→(List Ent→St→Prop)→Prop
 | [],log,σ,K=>K log σ
 | m :: r,log,σ,K =>
  match m.guard with
  | none=>f4o P H0 m σ [] fun e=>c5o P H0 r (e::log) (e.app σ) K
  | some (s,want) =>
   match get s σ.env with
   | .bool b=>a3f b want (f4o P H0 m ⟨put s (.bool want) σ.env,σ.heap⟩ [s] fun e=>c5o P H0 r (e::log) (e.app ⟨put s (.bool want) σ.env,σ.heap⟩) K)
     (c5o P H0 r (⟨m.dst,none,[s],[],[]⟩::log) (Ent.app ⟨m.dst,none,[s],[],[]⟩ ⟨put s (.bool (!want)) σ.env,σ.heap⟩) K)
   | .tup []=>c5o P H0 r (⟨m.dst,none,[s],[],[]⟩::log) (Ent.app ⟨m.dst,none,[s],[],[]⟩ σ) K
   | _=>False
def c6i (x:Ent):List Nat→Bool
 | []=>true
 | n::r=>(match x.eff with|some f=>!f.val.has n&&a0z n f.new|none=>true)&&c6i x r
def d4e:List Nat→List Nat→Bool
 | [],_=>true
 | n::r,l=>!mem n l&&d4e r l
def oneOf (d:Option Nat) (l:List Nat):Bool :=
 match d with
 | some n=>mem n l
 | none=>false
def apart (x y:Ent):Bool :=
 !oneOf x.dst y.uses&&!oneOf y.dst x.uses&&(match x.dst,y.dst with|some a,some b=>!Nat.beq a b|_,_=>true)&&d4e x.ids y.touch&&d4e y.ids x.touch&&d4e x.ids y.ids
def b3v (i d:Nat):List Ent→Nat
 | []=>0
 | z::r=>(bif mem i z.ids||mem d z.ids then 1 else 0)+b3v i d r
def late (r:List Ent) (x y:Ent):Bool :=
 !oneOf x.dst y.uses&&!oneOf y.dst x.uses&&(match x.dst,y.dst with|some a,some b=>!Nat.beq a b|_,_=>true)&&d4e x.ids y.touch&&d4e x.ids y.ids &&
  match y.eff with
  | some f=>match f.drop,f.new with
   | [i],[(d,_)]=>!mem d x.touch&&Nat.ble (b3v i d r) 1&&!Nat.beq i d
   | _,_=>false
  | none=>false
def b0h (ord lat:Bool) (r:List Ent) (x y:Ent):Bool:=c6i x y.made&&(ord||((apart x y||(lat&&late r x y))&&c6i y x.made))
def b4x (i:Nat) (x:Ent) (all:List Ent):List (List Nat)→List Ent→Bool
 | _,[]=>true
 | a::anc,y::r=>b0h (Nat.blt i 1000000&&mem i a) (mem (1000000+i) a) all x y&&b4x i x all anc r
 | [],_::_=>false
def a2k (H0:Heap) (σ:St):Nat→List (List Nat)→List Ent→Bool
 | _,_,[]=>true
 | i,_::anc,x::r=>a11 H0 σ x.made&&b4x i x r anc r&&a2k H0 σ (i+1) anc r
 | _,[],_::_=>false
def a06.isLd:a06→Bool
 | .ld ..=>true
 | _=>false
def a06.isApp:a06→Bool
 | .app ..=>true
 | _=>false
def b5z (all:List MOp) (m:MOp):List Nat→Bool
 | []=>true
 | x::r=>(Nat.blt x 1000000||(m.ins.isApp&&(match all[x - 1000000]? with|some l=>l.ins.isLd|none=>false)))&&b5z all m r
def a8m (all:List MOp):List MOp→List (List Nat)→Bool
 | m::r,a::s=>b5z all m a&&a8m all r s
 | _,_=>true
def b8b (aft:List Nat) (anc:List (List Nat)):List Nat→Bool
 | []=>true
 | k::r=>(Nat.ble 1000000 k||mem k aft||aft.any fun l=>mem k (anc.getD l []))&&b8b aft anc r
def below (j:Nat):List Nat→Bool
 | []=>true
 | k::r=>Nat.blt k j&&below j r
def a9c (all:List (List Nat)):Nat→List (List Nat)→List (List Nat)→Bool
 | _,[],[]=>true
 | j,a::aft,b::anc=>below j a&&b8b a all b&&a9c all (j+1) aft anc
 | _,_,_=>false
def b2b:List Nat→List Nat→Bool
 | [],[]=>true
 | a::r,b::s=>Nat.beq a b&&b2b r s
 | _,_=>false
def b1c:List (List Nat)→List Oper→Bool
 | [],[]=>true
 | a::r,o::s=>b2b a ((o.after.toList.filter (Region.binds .any)).map (·.on))&&b1c r s
 | _,_=>false
def Ran (P:Program) (H0:Heap) (m:MOp) (e:Ent) (σ:St) (gs:List Nat):Prop :=
 ∃f,e.eff=some f∧w9 P m.ins m.d (m.ins.opds.map (·.ev σ.env)) (c3l σ.heap) (fun u=>u=f) (fun u=>u=f)∧e.uses=gs++slotsOf m.ins.opds ∧
  e.touch=m.ins.touch (m.ins.opds.map (·.ev σ.env))∧e.made=m.ins.creates m.d
def Ev (P:Program) (H0:Heap) (m:MOp) (e:Ent) (σ:St):Prop :=
 e.dst=m.dst∧((m.guard=none∧Ran P H0 m e σ [])∨(∃s want b,m.guard=some (s,want)∧get s σ.env=.bool b∧s∈e.uses∧((b=want∧Ran P H0 m e σ [s])∨(b=(!want)∧e.eff=none)))∨∃s want,m.guard=some (s,want)∧get s σ.env=.tup []∧s∈e.uses∧e.eff=none)
def Evs (P:Program) (H0:Heap):List MOp→List Ent→St→Prop
 | [],[],_=>True
 | m::r,e::s,σ=>Ev P H0 m e σ∧Evs P H0 r s (e.app σ)
 | _,_,_=>False
def b3w:List Ent→St→St
 | [],σ=>σ
 | e::r,σ=>b3w r (e.app σ)
theorem c1q {P:Program} {H0:Heap} {m:MOp} {σ:St} {gs:List Nat} {k:Ent→Prop} (h:f4o P H0 m σ gs k):∃e,e.dst=m.dst∧Ran P H0 m e σ gs∧k e:=by
 unfold f4o at h
 cases hc:a11 H0 σ (m.ins.creates m.d) with
 | false=>rw [hc] at h;exact h.elim
 | true =>
  rw [hc] at h
  simp only [vQ] at h
  obtain ⟨f,h1,h2⟩:=c5g h
  exact ⟨_,rfl,⟨f,rfl,h2,rfl,rfl,rfl⟩,h1.elim id id⟩
theorem a8c {P:Program} {H0:Heap} {K:List Ent→St→Prop}:∀{ms:List MOp} {log:List Ent} {σ:St},c5o P H0 ms log σ K→∃es,Evs P H0 ms es σ∧K (es.reverse++log) (b3w es σ)
 | [],log,σ,h=>⟨[],trivial,by simpa [b3w,c5o] using h⟩
 | m::r,log,σ,h=>by
  simp only [c5o] at h
  cases hg:m.guard with
  | none =>
   rw [hg] at h
   obtain ⟨e,h1,h2,h3⟩:=c1q h
   obtain ⟨es,h4,h5⟩:=a8c h3
   exact ⟨e::es,⟨⟨h1,.inl ⟨hg,h2⟩⟩,h4⟩,by simpa [b3w] using h5⟩
  | some p =>
   obtain ⟨s,want⟩:=p
   rw [hg] at h
   simp only at h
   split at h
   case h_3=>exact h.elim
   case h_2 hb =>
    obtain ⟨es,h4,h5⟩:=a8c h
    exact ⟨_::es,⟨⟨rfl,.inr (.inr ⟨s,want,hg,hb,by simp,rfl⟩)⟩,h4⟩,by simpa [b3w] using h5⟩
   rename_i b hb
   obtain ⟨hx,hy⟩:=h
   have hf:=a8t hb
   by_cases hbw:b=want
   ·subst hbw
    have hx:=hx rfl
    rw [a3w hf] at hx
    obtain ⟨e,h1,h2,h3⟩:=c1q hx
    obtain ⟨es,h4,h5⟩:=a8c h3
    obtain ⟨f,k1,k2,k3,k4,k5⟩:=h2
    exact ⟨e::es,⟨⟨h1,.inr (.inl ⟨s,b,b,hg,hb,by rw [k3];simp,.inl ⟨rfl,f,k1,k2,k3,k4,k5⟩⟩)⟩,h4⟩,by simpa [b3w] using h5⟩
   ·have hbn:b=(!want):=by cases b<;>cases want<;>first|rfl|exact absurd rfl hbw
    have hy:=hy hbn
    rw [←hbn,a3w hf] at hy
    obtain ⟨es,h4,h5⟩:=a8c hy
    exact ⟨_::es,⟨⟨rfl,.inr (.inl ⟨s,want,b,hg,hb,by simp,.inr ⟨hbn,rfl⟩⟩)⟩,h4⟩,by simpa [b3w] using h5⟩
def fold (E:Nat→Bool):Nat→List Ent→St→St
 | _,[],σ=>σ
 | i,e::r,σ=>fold E (i+1) r (bif E i then e.app σ else σ)
def Ent.wr (e:Ent) (s:Nat):Prop:=e.dst=some s
theorem a7r {e:Ent} {σ:St} {s:Nat}:find s (e.app σ).env=if e.dst=some s then (match e.eff with|some f=>some f.val|none=>some (.tup [])) else find s σ.env:=by
 unfold Ent.app
 cases he:e.eff with
 | some f =>
  cases hd:e.dst with
  | none=>simp [St.app,c2u]
  | some d =>
   simp only [St.app,c2u,a0s,xQ]
   by_cases h:s=d
   ·simp [h]
   ·have:¬d=s:=fun e=>h e.symm
    simp [h,this]
 | none =>
  cases hd:e.dst with
  | none=>simp [a5f]
  | some d =>
   simp only [a5f,a0s,xQ]
   by_cases h:s=d
   ·simp [h]
   ·have:¬d=s:=fun e=>h e.symm
    simp [h,this]
theorem b4f {n:Nat}:∀{l:List (Nat×a0c)} {H H':Heap},(find n H=find n H'∨∃o,(n,o)∈l)→find n (puts l H)=find n (puts l H')
 | [],H,H',h=>by
  rcases h with h|⟨o,h⟩
  ·exact h
  ·cases h
 | (m,o)::r,H,H',h=>by
  simp only [puts]
  refine b4f ?_
  rw [a0s,a0s]
  by_cases e:n=m
  ·exact .inl (by simp [e])
  ·rcases h with h|⟨o',h⟩
   ·exact .inl (by simp [e,h])
   ·rcases w4.1 h with h|h
    ·cases h;exact absurd rfl e
    ·exact .inr ⟨o',h⟩
theorem b9y {f:Eff} {n:Nat} {H H':Heap} (h:n∈f.ids):find n (f.heap H)=find n (f.heap H'):=by
 unfold Eff.heap
 refine b4f ?_
 simp only [Eff.ids,wN,vG] at h
 rcases h with h|⟨p,hp,rfl⟩
 ·exact .inl (by rw [a4p,a4p];simp [h])
 ·exact .inr ⟨p.2,hp⟩
theorem b7w {f:Eff} {n:Nat} {H:Heap} (h:n∉f.ids):find n (f.heap H)=find n H:=by
 unfold Eff.heap
 simp only [Eff.ids,wN,vG,not_or,not_exists,not_and] at h
 rw [a1h (fun o ho=>h.2 (n,o) ho rfl),a4p]
 simp [h.1]
theorem b3l {e:Ent} {σ τ:St} {n:Nat} (h:n∈e.ids):find n (e.app σ).heap=find n (e.app τ).heap:=by
 unfold Ent.app
 cases he:e.eff with
 | some f=>exact b9y (by simpa [Ent.ids,he] using h)
 | none=>simp [Ent.ids,he] at h
theorem a2c {e:Ent} {σ:St} {n:Nat} (h:n∉e.ids):find n (e.app σ).heap=find n σ.heap:=by
 unfold Ent.app
 cases he:e.eff with
 | some f=>exact b7w (by simpa [Ent.ids,he] using h)
 | none=>rfl
theorem b1m {E E':Nat→Bool} {s:Nat}:∀{es:List Ent} {i:Nat} {σ τ:St},find s σ.env=find s τ.env→(∀k e,es[k]?=some e→E (i+k)≠E' (i+k)→e.dst≠some s) →
  find s (fold E i es σ).env=find s (fold E' i es τ).env
 | [],i,σ,τ,h,_=>h
 | e::r,i,σ,τ,h,hk=>by
  simp only [fold]
  refine b1m ?_ fun k e' hk' hne=>hk (k+1) e' (by simpa using hk') (by rw [show i+(k+1)=i+1+k from by omega];exact hne)
  have h0:=hk 0 e rfl
  rw [vF] at h0
  cases hE:E i<;>cases hE':E' i<;>simp only [vQ,vO]
  ·exact h
  ·rw [a7r,if_neg (h0 (by simp [hE,hE']))];exact h
  ·rw [a7r,if_neg (h0 (by simp [hE,hE']))];exact h
  ·rw [a7r,a7r,h]
theorem a6c {E E':Nat→Bool} {n:Nat}:∀{es:List Ent} {i:Nat} {σ τ:St},find n σ.heap=find n τ.heap→(∀k e,es[k]?=some e→E (i+k)≠E' (i+k)→n∉e.ids) →
  find n (fold E i es σ).heap=find n (fold E' i es τ).heap
 | [],i,σ,τ,h,_=>h
 | e::r,i,σ,τ,h,hk=>by
  simp only [fold]
  refine a6c ?_ fun k e' hk' hne=>hk (k+1) e' (by simpa using hk') (by rw [show i+(k+1)=i+1+k from by omega];exact hne)
  have h0:=hk 0 e rfl
  rw [vF] at h0
  cases hE:E i<;>cases hE':E' i<;>simp only [vQ,vO]
  ·exact h
  ·rw [a2c (h0 (by simp [hE,hE']))];exact h
  ·rw [a2c (h0 (by simp [hE,hE']))];exact h
  ·by_cases hm:n∈e.ids
   ·exact b3l hm
   ·rw [a2c hm,a2c hm];exact h
theorem a8v {E:Nat→Bool} {s j:Nat} {e:Ent}:∀{es:List Ent} {i:Nat} {σ τ:St},es[j]?=some e→E (i+j)=true→e.dst=some s→(∀k e',es[k]?=some e'→j<k→E (i+k)=true→e'.dst≠some s) →
  find s (fold E i es σ).env=find s (e.app τ).env
 | [],i,σ,τ,h,_,_,_=>by simp at h
 | e0::r,i,σ,τ,h,hE,hd,hk=>by
  simp only [fold]
  cases j with
  | zero =>
   simp at h;subst h
   rw [vF] at hE
   rw [hE,vQ]
   have:find s (fold E (i+1) r (e0.app σ)).env=find s (fold (fun _=>false) (i+1) r (e0.app σ)).env :=
    b1m rfl fun k e' hk' hne=>hk (k+1) e' (by simpa using hk') (by omega) (by rw [show i+(k+1)=i+1+k from by omega];simpa using hne)
   rw [this]
   have none':∀(l:List Ent) (i:Nat) (σ:St),fold (fun _=>false) i l σ=σ:=by
    intro l
    induction l with
    | nil=>intro i σ;rfl
    | cons a l ih=>intro i σ;simp only [fold,vO];exact ih _ _
   rw [none',a7r,a7r,if_pos hd,if_pos hd]
  | succ j =>
   exact a8v (by simpa using h) (by rw [show i+1+j=i+(j+1) from by omega];exact hE) hd fun k e' hk' hlt he=>hk (k+1) e' (by simpa using hk') (by omega) (by rw [show i+(k+1)=i+1+k from by omega];exact he)
theorem a7e {E:Nat→Bool} {n j:Nat} {e:Ent}:∀{es:List Ent} {i:Nat} {σ τ:St},es[j]?=some e→E (i+j)=true→n∈e.ids→(∀k e',es[k]?=some e'→j<k→E (i+k)=true→n∉e'.ids) →
  find n (fold E i es σ).heap=find n (e.app τ).heap
 | [],i,σ,τ,h,_,_,_=>by simp at h
 | e0::r,i,σ,τ,h,hE,hd,hk=>by
  simp only [fold]
  cases j with
  | zero =>
   simp at h;subst h
   rw [vF] at hE
   rw [hE,vQ]
   have:find n (fold E (i+1) r (e0.app σ)).heap=find n (fold (fun _=>false) (i+1) r (e0.app σ)).heap :=
    a6c rfl fun k e' hk' hne=>hk (k+1) e' (by simpa using hk') (by omega) (by rw [show i+(k+1)=i+1+k from by omega];simpa using hne)
   rw [this]
   have none':∀(l:List Ent) (i:Nat) (σ:St),fold (fun _=>false) i l σ=σ:=by
    intro l
    induction l with
    | nil=>intro i σ;rfl
    | cons a l ih=>intro i σ;simp only [fold,vO];exact ih _ _
   rw [none']
   exact b3l hd
  | succ j =>
   exact a7e (by simpa using h) (by rw [show i+1+j=i+(j+1) from by omega];exact hE) hd fun k e' hk' hlt he=>hk (k+1) e' (by simpa using hk') (by omega) (by rw [show i+(k+1)=i+1+k from by omega];exact he)
theorem c1w:∀{es:List Ent} {E:Nat→Bool} {i:Nat} {σ:St},(∀k,k<es.length→E (i+k)=true)→fold E i es σ=b3w es σ
 | [],_,_,_,_=>rfl
 | e::r,E,i,σ,h=>by
  have h0:=h 0 (by simp)
  rw [vF] at h0
  simp only [fold,b3w,h0,vQ]
  exact c1w fun k hk=>by
   have:=h (k+1) (by simpa using hk)
   rw [show i+(k+1)=i+1+k from by omega] at this;exact this
theorem b2w:∀{es:List Ent} {E:Nat→Bool} {i:Nat} {σ:St},(∀k,E (i+k)=false)→fold E i es σ=σ
 | [],_,_,_,_=>rfl
 | e::r,E,i,σ,h=>by
  have h0:=h 0
  rw [vF] at h0
  simp only [fold,h0,vO]
  exact b2w fun k=>by
   have:=h (k+1)
   rw [show i+(k+1)=i+1+k from by omega] at this;exact this
theorem b6b {a b:Nat}:Nat.blt a b=true↔a<b:=by
 unfold Nat.blt;exact ⟨zQ,Nat.ble_eq_true_of_le⟩
theorem c7s {P:Program} {H0:Heap}:∀{ms:List MOp} {es:List Ent} {i k:Nat} {σ:St} {m:MOp} {e:Ent},Evs P H0 ms es σ→ms[k]?=some m→es[k]?=some e→Ev P H0 m e (fold (fun j=>decide (j<i+k)) i es σ)
 | [],[],_,k,_,_,_,_,h,_=>by simp at h
 | m0::r,e0::s,i,0,σ,m,e,h,hm,he=>by
  simp at hm he;subst hm;subst he
  rw [b2w (fun k=>by simp)]
  exact h.1
 | m0::r,e0::s,i,k+1,σ,m,e,h,hm,he=>by
  have ih:=c7s (i:=i+1) (k:=k) h.2 (by simpa using hm) (by simpa using he)
  have hE:decide (i<i+(k+1))=true:=by simp
  simp only [fold,hE,vQ]
  rw [show i+(k+1)=i+1+k from by omega]
  exact ih
 | [],_::_,_,_,_,_,_,h,_,_=>h.elim
 | _::_,[],_,_,_,_,_,h,_,_=>h.elim
theorem b9x {P:Program} {H0:Heap}:∀{ms:List MOp} {es:List Ent} {σ:St},Evs P H0 ms es σ→es.length=ms.length
 | [],[],_,_=>rfl
 | _::_,_::_,_,h=>by simp [b9x h.2]
 | [],_::_,_,h=>h.elim
 | _::_,[],_,h=>h.elim
theorem a95 {l q:List Nat} (h:d4e l q=true) {n:Nat} (h1:n∈l) (h2:n∈q):False:=by
 induction l with
 | nil=>cases h1
 | cons m r ih =>
  simp only [d4e,wG,xX] at h
  rcases w4.1 h1 with rfl|h1
  ·have:=mem_iff.2 h2;rw [h.1] at this;cases this
  ·exact ih h.2 h1
structure Apart (x y:Ent):Prop where
 du:∀d,x.dst=some d→d∉y.uses
 ud:∀d,y.dst=some d→d∉x.uses
 dd:∀d,x.dst=some d→y.dst≠some d
 it:∀n,n∈x.ids→n∉y.touch
 ti:∀n,n∈y.ids→n∉x.touch
 ii:∀n,n∈x.ids→n∉y.ids
theorem a9b {x y:Ent} (h:apart x y=true):Apart x y:=by
 simp only [apart,wG,xX] at h
 obtain ⟨⟨⟨⟨⟨h1,h2⟩,h3⟩,h4⟩,h5⟩,h6⟩:=h
 refine ⟨fun d hd hm=>?_,fun d hd hm=>?_,fun d hd he=>?_,fun n a b=>a95 h4 a b,fun n a b=>a95 h5 a b,fun n a b=>a95 h6 a b⟩
 ·rw [hd] at h1;simp only [oneOf] at h1;rw [mem_iff.2 hm] at h1;cases h1
 ·rw [hd] at h2;simp only [oneOf] at h2;rw [mem_iff.2 hm] at h2;cases h2
 ·rw [hd,he] at h3;simp at h3
theorem Apart.symm {x y:Ent} (h:Apart x y):Apart y x :=
 ⟨h.ud,h.du,fun d h1 h2=>h.dd d h2 h1,h.ti,h.it,fun n h1 h2=>h.ii n h2 h1⟩
structure b0w (x y:Ent):Prop where
 du:∀d,x.dst=some d→d∉y.uses
 ud:∀d,y.dst=some d→d∉x.uses
 dd:∀d,x.dst=some d→y.dst≠some d
 ii:∀n,n∈x.ids→n∉y.ids
theorem Apart.a0 {x y:Ent} (h:Apart x y):b0w x y:=⟨h.du,h.ud,h.dd,h.ii⟩
theorem b0w.symm {x y:Ent} (h:b0w x y):b0w y x:=⟨h.ud,h.du,fun d h1 h2=>h.dd d h2 h1,fun n h1 h2=>h.ii n h2 h1⟩
theorem a4y {r:List Ent} {x y:Ent} (h:late r x y=true):b0w x y∧(∀n,n∈x.ids→n∉y.touch)∧∃v i d o,y.eff=some ⟨v,[i],[(d,o)]⟩∧d∉x.touch∧b3v i d r≤1∧i≠d:=by
 simp only [late,wG,xX] at h
 obtain ⟨⟨⟨⟨⟨h1,h2⟩,h3⟩,h4⟩,h5⟩,h6⟩:=h
 refine ⟨⟨fun d hd hm=>?_,fun d hd hm=>?_,fun d hd he=>?_,fun n a b=>a95 h5 a b⟩,fun n a b=>a95 h4 a b,?_⟩
 ·rw [hd] at h1;simp only [oneOf] at h1;rw [mem_iff.2 hm] at h1;cases h1
 ·rw [hd] at h2;simp only [oneOf] at h2;rw [mem_iff.2 hm] at h2;cases h2
 ·simp only [hd,he] at h3;simp at h3
 ·split at h6
  ·rename_i f hf
   obtain ⟨v,dr,nw⟩:=f
   simp only at h6
   split at h6
   ·rename_i i d o
    simp only [wG,xX] at h6
    refine ⟨v,_,_,_,hf,fun hm=>?_,zQ h6.1.2,fun he=>?_⟩
    ·have:=mem_iff.2 hm
     rw [h6.1.1] at this;cases this
    ·rw [he] at h6;simp at h6
   ·cases h6
  ·cases h6
theorem b5y {i d:Nat}:∀{r:List Ent} {j:Nat} {x:Ent},r[j]?=some x→(i∈x.ids∨d∈x.ids)→1≤b3v i d r
 | [],_,_,h,_=>by simp at h
 | z::r,0,x,h,hm=>by
  simp at h;subst h
  have:(mem i z.ids||mem d z.ids)=true:=by
   rcases hm with hm|hm
   ·simp [mem_iff.2 hm]
   ·simp [mem_iff.2 hm]
  simp only [b3v,this,vQ];omega
 | z::r,j+1,x,h,hm=>by
  have:=b5y (r:=r) (j:=j) (by simpa using h) hm
  simp only [b3v];omega
theorem b2g {i d:Nat}:∀{r:List Ent} {j k:Nat} {x y:Ent},b3v i d r≤1→r[j]?=some x→r[k]?=some y→(i∈x.ids∨d∈x.ids)→(i∈y.ids∨d∈y.ids)→j=k
 | [],_,_,_,_,_,h,_,_,_=>by simp at h
 | z::r,0,0,_,_,_,_,_,_,_=>rfl
 | z::r,0,k+1,x,y,hl,hx,hy,h1,h2=>by
  exfalso
  simp at hx;subst hx
  have a:=b5y (r:=r) (j:=k) (by simpa using hy) h2
  have b:(mem i z.ids||mem d z.ids)=true:=by
   rcases h1 with hm|hm
   ·simp [mem_iff.2 hm]
   ·simp [mem_iff.2 hm]
  simp only [b3v,b,vQ] at hl;omega
 | z::r,j+1,0,x,y,hl,hx,hy,h1,h2=>by
  exfalso
  simp at hy;subst hy
  have a:=b5y (r:=r) (j:=j) (by simpa using hx) h1
  have b:(mem i z.ids||mem d z.ids)=true:=by
   rcases h2 with hm|hm
   ·simp [mem_iff.2 hm]
   ·simp [mem_iff.2 hm]
  simp only [b3v,b,vQ] at hl;omega
 | z::r,j+1,k+1,x,y,hl,hx,hy,h1,h2=>by
  simp only [b3v] at hl
  have:j=k:=b2g (r:=r) (j:=j) (k:=k) (x:=x) (y:=y) (by omega) (by simpa using hx) (by simpa using hy) h1 h2
  rw [this]
theorem b2k {all:List MOp} {m:MOp} {l:Nat}:∀{r:List Nat},b5z all m r=true→mem (1000000+l) r=true→m.ins.isApp=true∧∃q,all[l]?=some q∧q.ins.isLd=true
 | [],_,h=>by simp [mem] at h
 | x::r,h,hm=>by
  simp only [b5z,wG] at h
  rcases w4.1 (mem_iff.1 hm) with e|hm
  ·subst e
   have hb:Nat.blt (1000000+l) 1000000=false:=by
    cases hb:Nat.blt (1000000+l) 1000000 with
    | false=>rfl
    | true=>have:=b6b.1 hb;omega
   have h1:=h.1
   rw [hb,w7,wG] at h1
   refine ⟨h1.1,?_⟩
   have e:1000000+l - 1000000=l:=by omega
   rw [e] at h1
   cases hq:all[l]? with
   | none=>rw [hq] at h1;cases h1.2
   | some q=>rw [hq] at h1;exact ⟨q,rfl,h1.2⟩
  ·exact b2k h.2 (mem_iff.2 hm)
theorem b2l {all:List MOp} {l:Nat}:∀{ms:List MOp} {anc:List (List Nat)} {k:Nat} {a:List Nat} {m:MOp},a8m all ms anc=true→anc[k]?=some a→ms[k]?=some m→mem (1000000+l) a=true→m.ins.isApp=true∧∃q,all[l]?=some q∧q.ins.isLd=true
 | [],_,_,_,_,_,_,h,_=>by simp at h
 | _::_,[],_,_,_,_,h,_,_=>by simp at h
 | m0::r,a0::s,0,a,m,h,ha,hm,hl=>by
  simp only [a8m,wG] at h
  simp at ha hm;subst ha;subst hm
  exact b2k h.1 hl
 | m0::r,a0::s,k+1,a,m,h,ha,hm,hl=>by
  simp only [a8m,wG] at h
  exact b2l h.2 (by simpa using ha) (by simpa using hm) hl
def e04 (x:Ent) (l:List Nat):Prop:=∀n∈l,∀f,x.eff=some f→f.val.has n=false∧a0z n f.new=true
theorem a8i {x:Ent}:∀{l:List Nat},c6i x l=true→e04 x l
 | [],_,n,hn=>by cases hn
 | m::r,h,n,hn=>by
  simp only [c6i,wG] at h
  rcases w4.1 hn with rfl|hn
  ·intro f hf
   rw [hf] at h
   simp only [wG,xX] at h
   exact h.1
  ·exact a8i h.2 n hn
theorem b84 {i:Nat} {x:Ent} {all:List Ent}:∀{anc:List (List Nat)} {r:List Ent} {k:Nat} {a:List Nat} {y:Ent},b4x i x all anc r=true→anc[k]?=some a→r[k]?=some y→b0h (Nat.blt i 1000000&&mem i a) (mem (1000000+i) a) all x y=true
 | _,[],k,_,_,_,_,h=>by simp at h
 | [],_::_,k,_,_,_,h,_=>by simp at h
 | a0::anc,y0::r,0,a,y,h,ha,hy=>by
  simp only [b4x,wG (b4x _ _ _ _ _),wG (b0h _ _ _ _ _)] at h
  simp at ha hy;subst ha;subst hy;exact h.1
 | a0::anc,y0::r,k+1,a,y,h,ha,hy=>by
  simp only [b4x,wG (b0h _ _ _ _ _)] at h
  exact b84 h.2 (by simpa using ha) (by simpa using hy)
theorem a96 {H0:Heap} {σ:St}:∀{i:Nat} {anc:List (List Nat)} {es:List Ent} {j k:Nat} {a:List Nat} {x y:Ent},a2k H0 σ i anc es=true→j<k→anc[k]?=some a→es[j]?=some x→es[k]?=some y →
  b0h (Nat.blt (i+j) 1000000&&mem (i+j) a) (mem (1000000+(i+j)) a) (es.drop (j+1)) x y=true
 | _,_,[],j,_,_,_,_,_,_,_,h,_=>by simp at h
 | _,[],_::_,_,k,_,_,_,_,_,h,_,_=>by simp at h
 | i,a0::anc,x0::r,0,k,a,x,y,h,hlt,ha,hx,hy=>by
  simp only [a2k,wG] at h
  simp at hx;subst hx
  cases k with
  | zero=>omega
  | succ k=>exact b84 h.1.2 (by simpa using ha) (by simpa using hy)
 | i,a0::anc,x0::r,j+1,k,a,x,y,h,hlt,ha,hx,hy=>by
  simp only [a2k,wG] at h
  cases k with
  | zero=>omega
  | succ k =>
   have:=a96 (i:=i+1) (j:=j) (k:=k) h.2 (by omega) (by simpa using ha) (by simpa using hx) (by simpa using hy)
   rw [show i+(j+1)=i+1+j from by omega];exact this
theorem b0t {c:Ctx} {σ:St}:∀{i:Nat} {anc:List (List Nat)} {es:List Ent} {j:Nat} {x:Ent},a2k c.H0 σ i anc es=true→es[j]?=some x→∀n∈x.made,Clean c σ n
 | _,_,[],j,_,_,h=>by simp at h
 | _,[],_::_,_,_,h,_=>by simp [a2k] at h
 | i,a0::anc,x0::r,0,x,h,hx=>by
  simp only [a2k,wG] at h
  simp at hx;subst hx
  exact a1e h.1.1
 | i,a0::anc,x0::r,j+1,x,h,hx=>by
  simp only [a2k,wG] at h
  exact b0t h.2 (by simpa using hx)
theorem b25 {n d:Nat} {x:V}:∀{env:List (Nat×V)},a5z n env=true→x.has n=false→a5z n (put d x env)=true
 | [],_,hx=>by simp [put,a5z,hx]
 | (m,y)::r,h,hx=>by
  simp only [a5z,wG] at h
  simp only [put]
  cases Nat.beq d m with
  | true=>simp only [vQ,a5z,hx,h.2,wY,w8]
  | false=>simp only [vO,a5z,h.1,b25 h.2 hx,w8]
theorem b4l {n d:Nat} {x:a0c}:∀{H:Heap},a0z n H=true→x.has n=false→a0z n (put d x H)=true
 | [],_,hx=>by simp [put,a0z,hx]
 | (m,y)::r,h,hx=>by
  simp only [a0z,wG] at h
  simp only [put]
  cases Nat.beq d m with
  | true=>simp only [vQ,a0z,hx,h.2,wY,w8]
  | false=>simp only [vO,a0z,h.1,b4l h.2 hx,w8]
theorem a9q {n d:Nat}:∀{H:Heap},a0z n H=true→a0z n (del d H)=true
 | [],_=>rfl
 | (m,y)::r,h=>by
  simp only [a0z,wG] at h
  simp only [del]
  cases Nat.beq d m with
  | true=>exact a9q h.2
  | false=>simp only [vO,a0z,h.1,a9q h.2,w8]
theorem b23 {n:Nat}:∀{l:List Nat} {H:Heap},a0z n H=true→a0z n (c83 l H)=true
 | [],_,h=>h
 | d::r,_,h=>b23 (l:=r) (a9q h)
theorem b22 {n:Nat}:∀{l:List (Nat×a0c)} {H:Heap},a0z n H=true→a0z n l=true→a0z n (puts l H)=true
 | [],_,h,_=>h
 | (d,o)::r,_,h,hl=>by
  simp only [a0z,wG,xX] at hl
  exact b22 (l:=r) (b4l h hl.1) hl.2
theorem c8a {c:Ctx} {σ:St} {e:Ent} {n:Nat} (h:Clean c σ n) (hm:∀f,e.eff=some f→f.val.has n=false∧a0z n f.new=true):Clean c (e.app σ) n:=by
 unfold Ent.app
 cases he:e.eff with
 | none =>
  refine ⟨h.1,?_,h.2.2⟩
  cases hd:e.dst with
  | none=>exact h.2.1
  | some d=>exact b25 h.2.1 rfl
 | some f =>
  obtain ⟨h1,h2⟩:=hm f he
  refine ⟨h.1,?_,b22 (b23 h.2.2) h2⟩
  cases hd:e.dst with
  | none=>exact h.2.1
  | some d=>exact b25 h.2.1 h1
theorem b4w {c:Ctx} {n:Nat} {E:Nat→Bool}:∀{es:List Ent} {i:Nat} {σ:St},Clean c σ n→(∀k e,es[k]?=some e→E (i+k)=true→∀f,e.eff=some f→f.val.has n=false∧a0z n f.new=true)→Clean c (fold E i es σ) n
 | [],_,_,h,_=>h
 | e::r,i,σ,h,hk=>by
  simp only [fold]
  refine b4w ?_ fun k e' he' hE=>hk (k+1) e' (by simpa using he') (by rw [show i+(k+1)=i+1+k from by omega];exact hE)
  have h0:=hk 0 e rfl
  rw [vF] at h0
  cases hE:E i with
  | true=>exact c8a h (h0 hE)
  | false=>exact h
theorem b2a:∀{a b:List Nat},b2b a b=true→a=b
 | [],[],_=>rfl
 | x::a,y::b,h=>by
  simp only [b2b,wG] at h
  rw [zR h.1,b2a h.2]
 | [],_::_,h=>by simp [b2b] at h
 | _::_,[],h=>by simp [b2b] at h
theorem c2i:∀{aft:List (List Nat)} {os:List Oper} {k:Nat} {o:Oper},b1c aft os=true→os[k]?=some o→∃a,aft[k]?=some a∧a=(o.after.toList.filter (Region.binds .any)).map (·.on)
 | [],[],k,o,_,h=>by simp at h
 | a::r,o'::s,0,o,h,ho=>by
  simp only [b1c,wG] at h
  simp at ho;subst ho
  exact ⟨a,rfl,b2a h.1⟩
 | a::r,o'::s,k+1,o,h,ho=>by
  simp only [b1c,wG] at h
  obtain ⟨b,h1,h2⟩:=c2i h.2 (k:=k) (by simpa using ho)
  exact ⟨b,by simpa using h1,h2⟩
 | [],_::_,_,_,h,_=>by simp [b1c] at h
 | _::_,[],_,_,h,_=>by simp [b1c] at h
theorem a99 {j:Nat}:∀{l:List Nat},below j l=true→∀n∈l,n<j
 | [],_,n,h=>by cases h
 | m::r,h,n,hn=>by
  simp only [below,wG] at h
  rcases w4.1 hn with rfl|hn
  ·exact b6b.1 h.1
  ·exact a99 h.2 n hn
theorem b56 {aft:List Nat} {anc:List (List Nat)}:∀{l:List Nat},b8b aft anc l=true→∀n∈l,n<1000000→n∈aft∨∃m∈aft,n∈anc.getD m []
 | [],_,n,h,_=>by cases h
 | m::r,h,n,hn,hlt=>by
  simp only [b8b,wG,wT,List.any_eq_true] at h
  rcases w4.1 hn with rfl|hn
  ·rcases h.1 with (h1|h1)|⟨m,h1,h2⟩
   ·exact absurd (zQ h1) (by omega)
   ·exact .inl (mem_iff.1 h1)
   ·exact .inr ⟨m,h1,mem_iff.1 h2⟩
  ·exact b56 h.2 n hn hlt
theorem a5h {all:List (List Nat)}:∀{j:Nat} {aft anc:List (List Nat)} {k:Nat} {a:List Nat},a9c all j aft anc=true→aft[k]?=some a→∃b,anc[k]?=some b∧below (j+k) a=true∧b8b a all b=true
 | j,[],[],k,a,_,h=>by simp at h
 | j,a0::aft,b0::anc,0,a,h,ha=>by
  simp only [a9c,wG] at h
  simp at ha;subst ha
  exact ⟨b0,rfl,h.1.1,h.1.2⟩
 | j,a0::aft,b0::anc,k+1,a,h,ha=>by
  simp only [a9c,wG] at h
  obtain ⟨b,h1,h2,h3⟩:=a5h h.2 (k:=k) (by simpa using ha)
  exact ⟨b,by simpa using h1,by rw [show j+(k+1)=j+1+k from by omega];exact h2,h3⟩
 | _,[],_::_,_,_,h,_=>by simp [a9c] at h
 | _,_::_,[],_,_,h,_=>by simp [a9c] at h
theorem b55 {all:List (List Nat)} {aft:List (List Nat)} {E:Nat→Bool} (hok:a9c all 0 aft all=true) (hE:∀k a,aft[k]?=some a→E k=true→∀x∈a,E x=true) :
  ∀(k:Nat) (a b:List Nat),aft[k]?=some a→all[k]?=some b→(∀x∈a,E x=true)→∀x∈b,x<1000000→E x=true:=by
 intro k
 induction k using Nat.strongRecOn with
 | _ k ih =>
  intro a b ha hb hall x hx hxl
  obtain ⟨b',h1,h2,h3⟩:=a5h hok ha
  rw [hb] at h1;cases h1
  rw [vC] at h2
  rcases b56 h3 x hx hxl with h|⟨m,h4,h5⟩
  ·exact hall x h
  ·have hm:=a99 h2 m h4
   cases hbm:all[m]? with
   | none=>rw [zE,hbm] at h5;simp at h5
   | some bm =>
    rw [zE,hbm] at h5
    have hmk:m<aft.length:=Nat.lt_trans hm (zG.1 ha).1
    exact ih m hm aft[m] bm (zJ hmk) hbm (hE m _ (zJ hmk) (hall m h4)) x h5 hxl
def a4v (E:Nat→Bool) (i:Nat):Nat→Bool:=fun k=>bif Nat.beq k i then true else E k
theorem a3k {E:Nat→Bool} {i:Nat}:a4v E i i=true:=by simp [a4v]
theorem a2d {E:Nat→Bool} {i k:Nat} (h:k≠i):a4v E i k=E k:=by
 have:Nat.beq k i=false:=by
  cases hb:Nat.beq k i with
  | true=>exact absurd (zR hb) h
  | false=>rfl
 simp [a4v,this]
theorem Rel.congr {P:Program} {c:Ctx} {g:Gh} {σ τ:St} {a:Act} {w:World} (h:Rel P c g σ a w) (he:∀s,find s τ.env=find s σ.env) (hh:∀s,find s τ.heap=find s σ.heap):Rel P c g τ a w :=
 h.sub (fun s x hx=>by rw [←he];exact hx) fun s o ho=>by rw [←hh];exact ho
theorem a8j {n:Nat}:∀{l:List Opd},Opd.t n∈l→n∈slotsOf l
 | .t m::r,h=>by
  rcases w4.1 h with h|h
  ·cases h;exact xJ
  ·exact xD _ (a8j h)
 | .c _::r,h=>by
  rcases w4.1 h with h|h
  ·cases h
  ·exact a8j (l:=r) h
 | .f _::r,h=>by
  rcases w4.1 h with h|h
  ·cases h
  ·exact a8j (l:=r) h
theorem d2k {env env':List (Nat×V)}:∀{l:List Opd},(∀n∈slotsOf l,find n env=find n env')→l.map (·.ev env)=l.map (·.ev env'):=by
 intro l h
 refine List.map_congr_left fun x hx=>?_
 cases x with
 | t n=>simp only [Opd.ev,a1m,h n (a8j hx)]
 | c v=>rfl
 | f n=>rfl
theorem b71 {P:Program} {nt:Nat} {ops:Array Oper}:∀{ms:List MOp} {os:List Oper} {k:Nat} {o:Oper},a18 P nt ops ms os=true→os[k]?=some o→∃m,ms[k]?=some m∧m.ok P nt ops o=true
 | [],[],k,o,_,h=>by simp at h
 | m::r,o'::s,0,o,h,ho=>by
  simp only [a18,wG] at h
  simp at ho;subst ho
  exact ⟨m,rfl,h.1⟩
 | m::r,o'::s,k+1,o,h,ho=>by
  simp only [a18,wG] at h
  obtain ⟨b,h1,h2⟩:=b71 h.2 (k:=k) (by simpa using ho)
  exact ⟨b,by simpa using h1,h2⟩
 | [],_::_,_,_,h,_=>by cases h
 | _::_,[],_,_,h,_=>by cases h
theorem b4m {P:Program} {nt:Nat} {ops:Array Oper}:∀{ms:List MOp} {l:List Oper},a18 P nt ops ms l=true→ms.length=l.length
 | [],[],_=>rfl
 | m::r,o::s,h=>by
  simp only [a18,wG] at h
  simp only [wC,b4m h.2]
 | [],_::_,h=>by cases h
 | _::_,[],h=>by cases h
section
variable {P:Program} {c:Ctx} {ops:Array Oper} {ms:List MOp} {es:List Ent} {aft anc:List (List Nat)} {σ0:St} {Q:Exit→Act→World→Prop}
structure Part (aft:List (List Nat)) (E:Nat→Bool) (i:Nat):Prop where
 down:∀k a,aft[k]?=some a→E k=true→∀x∈a,E x=true
 out:E i=false
 ready:∀a,aft[i]?=some a→∀x∈a,E x=true
structure b3o (anc:List (List Nat)) (es:List Ent) (l k:Nat) (x y:Ent):Prop where
 lt:l<k
 fst:es[l]?=some x
 snd:es[k]?=some y
 mark:∃a,anc[k]?=some a∧mem (1000000+l) a=true
 ok:late (es.drop (l+1)) x y=true
theorem a9m {E:Nat→Bool} {i:Nat} {e:Ent} (hanc:a9c anc 0 aft anc=true) (hchk:a2k c.H0 σ0 0 anc es=true) (hl:aft.length=es.length) (hp:Part aft E i) (hi:es[i]?=some e)
  {k:Nat} {e':Ent} (hk:es[k]?=some e') (hne:k≠i) (hE:E k≠decide (k<i)):b0w e e'∧e04 e' e.made∧((∀n,n∈e'.ids→n∉e.touch)∨b3o anc es i k e e'):=by
 have hil:i<aft.length:=by rw [hl];exact (zG.1 hi).1
 have hkl:k<aft.length:=by rw [hl];exact (zG.1 hk).1
 have hai:=zJ hil
 have hak:=zJ hkl
 obtain ⟨bi,hbi,_,_⟩:=a5h hanc hai
 obtain ⟨bk,hbk,_,_⟩:=a5h hanc hak
 by_cases hlt:k<i
 ·have hEk:E k=false:=by
   cases h:E k with
   | false=>rfl
   | true=>rw [h] at hE;simp [hlt] at hE
  have hno:(Nat.blt (0+k) 1000000&&mem (0+k) bi)=false:=by
   cases h:(Nat.blt (0+k) 1000000&&mem (0+k) bi) with
   | false=>rfl
   | true =>
    rw [wG] at h
    have:=b55 hanc hp.down i _ bi hai hbi (hp.ready _ hai) k (by simpa using mem_iff.1 h.2) (by have:=b6b.1 h.1;omega)
    rw [hEk] at this;cases this
  have:=a96 hchk hlt hbi hk hi
  rw [hno] at this
  simp only [b0h,w7,wG,wT] at this
  refine ⟨?_,a8i this.1,.inl ?_⟩
  ·rcases this.2.1 with h|h
   ·exact (a9b h).a0.symm
   ·exact (a4y h.2).1.symm
  ·rcases this.2.1 with h|h
   ·exact (a9b h).it
   ·exact (a4y h.2).2.1
 ·have hEk:E k=true:=by
   cases h:E k with
   | true=>rfl
   | false=>rw [h] at hE;simp [hlt] at hE
  have hik:i<k:=by omega
  have hno:(Nat.blt (0+i) 1000000&&mem (0+i) bk)=false:=by
   cases h:(Nat.blt (0+i) 1000000&&mem (0+i) bk) with
   | false=>rfl
   | true =>
    rw [wG] at h
    have:=b55 hanc hp.down k _ bk hak hbk (hp.down k _ hak hEk) i (by simpa using mem_iff.1 h.2) (by have:=b6b.1 h.1;omega)
    rw [hp.out] at this;cases this
  have:=a96 hchk hik hbk hi hk
  rw [hno] at this
  simp only [b0h,w7,wG,wT] at this
  refine ⟨?_,a8i this.2.2,?_⟩
  ·rcases this.2.1 with h|h
   ·exact (a9b h).a0
   ·exact (a4y h.2).1
  ·rcases this.2.1 with h|h
   ·exact .inl (a9b h).ti
   ·exact .inr ⟨hik,hi,hk,⟨bk,hbk,by rw [←h.1,vC]⟩,h.2⟩
theorem c3j {E:Nat→Bool} {i:Nat} {e:Ent} (hanc:a9c anc 0 aft anc=true) (hchk:a2k c.H0 σ0 0 anc es=true) (hl:aft.length=es.length) (hp:Part aft E i) (hi:es[i]?=some e)
  {k:Nat} {e':Ent} (hk:es[k]?=some e') (hE:E k=true):e04 e' e.made:=by
 have hne:k≠i:=fun h=>by rw [h,hp.out] at hE;cases hE
 by_cases hlt:k<i
 ·have hil:i<aft.length:=by rw [hl];exact (zG.1 hi).1
  obtain ⟨bi,hbi,_,_⟩:=a5h hanc (zJ hil)
  have:=a96 hchk hlt hbi hk hi
  simp only [b0h,wG] at this
  exact a8i this.1
 ·exact (a9m hanc hchk hl hp hi hk hne (by rw [hE];simp [hlt])).2.1
def c9d (H:Heap) (g:Gh) (w:World) (id k:Nat) (xs:List V) (d:Nat):Prop :=
 xs=[]∨∃(cur:Array Value) (e:TypeId) (fz:Nat×Nat),w.heap[g.ρ id]?=some (.cells cur e fz)∧(∀i x,xs[i]?=some x→(g.base id+i)*k+x.cells.length≤cur.size) ∧
  (∀(i j:Nat) (x y:V),xs[i]?=some x→x.cells[j]?=some y→Rd g.S w (cur.getD ((g.base id+i)*k+j) undef) y)∧(g.S (g.ρ id)∨((∃o,find d H=some o)∧¬g.nil d∧g.ρ d=g.ρ id))
theorem c9d.congr {H H':Heap} {g:Gh} {w:World} {id k d:Nat} {xs:List V} (h:c9d H g w id k xs d) (he:find d H'=find d H):c9d H' g w id k xs d:=by
 rcases h with h|⟨cur,e,fz,h1,h2,h3,h4⟩
 ·exact .inl h
 ·exact .inr ⟨cur,e,fz,h1,h2,h3,h4.imp (fun h=>h) fun h=>⟨by rw [he];exact h.1,h.2⟩⟩
theorem c9d.step {H:Heap} {g g':Gh} {w w':World} {id k d:Nat} {xs:List V} {f:Eff} (h:c9d H g w id k xs d) (hH:a2l P g w H) (hs:a07 g H w f g' w') (hi:id∉f.ids) (hd:d∉f.ids):c9d (f.heap H) g' w' id k xs d:=by
 have hkeep:a1o g.S w w':=fun b hb=>hs.keep b (hH.lt b hb) fun id o _ ho hn he=>hH.sep id o ho hn (he▸hb)
 have nn:∀{n},n∉f.ids→∀o,(n,o)∉f.new:=fun hn o ho=>hn (by simp only [Eff.ids,wN,vG];exact .inr ⟨_,ho,rfl⟩)
 rcases h with h|⟨cur,e,fz,h1,h2,h3,h4⟩
 ·exact .inl h
 ·obtain ⟨a1,a2,a3,a4⟩:=hs.agree id (nn hi)
  obtain ⟨b1,b2,b3,b4⟩:=hs.agree d (nn hd)
  refine .inr ⟨cur,e,fz,?_,fun i x hx=>by rw [a2];exact h2 i x hx,fun i j x y hx hy=>by rw [a2];exact (h3 i j x y hx hy).mono hkeep hs.sup,?_⟩
  ·rw [a1]
   rcases h4 with h4|⟨⟨o,h5⟩,h6,h7⟩
   ·exact (hkeep _ h4).trans h1
   ·refine (hs.keep _ (zF.1 h1).1 fun id0 o0 hid0 ho0 hn0 he=>?_).trans h1
    exact hd (hH.inj id0 d o0 o ho0 h5 hn0 h6 (by rw [he,h7])▸hid0)
  ·rw [a1,b1]
   rcases h4 with h4|⟨h5,h6,h7⟩
   ·exact .inl (hs.sup _ h4)
   ·exact .inr ⟨by rw [Eff.find_other hd];exact h5,fun h=>h6 (b4.1 h),h7⟩
theorem c9e.w {g g':Gh} {w':World} {H:Heap} {id k d:Nat} {xs:List V} (h:c9e g g' w' id k xs d) (ha:g.agree g' id) (hd:∃o,find d H=some o):c9d H g' w' id k xs d:=by
 obtain ⟨a1,a2,a3,a4⟩:=ha
 rcases h with h|⟨cur,e,fz,h1,h2,h3,h4⟩
 ·exact .inl h
 ·refine .inr ⟨cur,e,fz,by rw [a1];exact h1,by rw [a2];exact h2,by rw [a2];exact h3,?_⟩
  rw [a1]
  exact h4.imp (fun h=>h) fun h=>⟨hd,h⟩
theorem f9d {o:Oper} {g:Gh} {σ:St} {a:Act} {w:World} {K L:Eff→Prop} {K':Act→World→Prop} {Q':Exit→Act→World→Prop} {n:Option Nat} {x:Opd} (hok:(a06.ld n x).ok P o.op=true) (hR:Rel P c g σ a w) {H:Heap} {id k i off d:Nat} {xs:List V} {q:V} (hx:x.ev σ.env=.optr id k i off)
  (hp:c9d H g w id k xs d) (hq:xs[i]?=some q) (h:part n off q.cells (fun r=>K (evl r))) (hF:Fin o c g σ a w K L K'):o.wp P a w K' Q':=by
 have:∃t y,o.op=.load t y∧x.ok y=true∧c2h P t=some n:=by
  cases ho:o.op<;>rw [ho] at hok<;>try (simp [a06.ok] at hok;done)
  simp [a06.ok] at hok
  exact ⟨_,_,rfl,hok.1,hok.2⟩
 obtain ⟨t,y,ho,hx',ht⟩:=this
 have vx:=Opd.vr hR hx'
 rw [hx] at vx
 rcases hp with hp|⟨cur,e,fz,h1,h2,h3,h4⟩
 ·rw [hp] at hq;simp at hq
 ·obtain ⟨v,x'',hrun,hk,hv'⟩:=a1i (P:=P) (g:=g) (w:=w) ht (o':=(g.base id+i)*k) (off:=off) h1 (cs:=q.cells) (h2 i q hq) (fun j y hj=>.rd (h3 i j q y hq hj)) h
  exact a09 hR hF (by simp [execOp,ho,Instr.loadAt,vx.optr_inv,Instr.sureAddr,hrun]) (.inl hk) hv'
def b8j (anc:List (List Nat)) (es:List Ent) (σ0:St) (E:Nat→Bool) (g:Gh) (w:World):Prop :=
 ∀l k x y,b3o anc es l k x y→E l=false→E k=true→∀v id d o,y.eff=some ⟨v,[id],[(d,o)]⟩→∀kk xs t,find id (fold (fun j=>decide (j<k)) 0 es σ0).heap=some (.arr kk xs t)→c9d (fold E 0 es σ0).heap g w id kk xs d
theorem d4i {k bytes d:Nat} {ty:Option TypeId} {x y:V} {ob:Nat→Option a0c} {v:V} {id d':Nat} {o:a0c} (h:c0t k bytes d ty x y ob (fun u=>u=⟨v,[id],[(d',o)]⟩)) :
  d'=d∧∃lo n xs t0,x=.osl id k lo n∧ob id=some (.arr k xs t0):=by
 unfold c0t at h
 split at h
 ·obtain ⟨_,h⟩:=h
  split at h
  ·obtain ⟨_,h⟩:=h;simp at h
  ·split at h
   ·rename_i id' k' lo n _ k'' xs t0 hob
    by_cases hb:(Nat.beq k k'&&Nat.beq k k'')=true
    case neg=>simp [hb] at h
    simp only [hb,vQ] at h
    simp only [wG] at hb
    have q1:=zR hb.1;subst q1
    have q2:=zR hb.2;subst q2
    obtain ⟨_,h⟩:=h
    simp only [Eff.mk.injEq,wR,Prod.mk.injEq,and_true] at h
    obtain ⟨_,h1,h2,_⟩:=h
    subst h1;subst h2
    exact ⟨rfl,_,_,_,_,rfl,hob⟩
   ·exact h.elim
  ·exact h.elim
 ·exact h.elim
theorem c9q {E:Nat→Bool} {i:Nat} {o:Oper} {m:MOp} {e:Ent} {g:Gh} {a:Act} {w:World} {K':Act→World→Prop} (hlate:a8m ms ms anc=true) (hevs:Evs P c.H0 ms es σ0) (hms:ms[i]?=some m) (hanc:a9c anc 0 aft anc=true) (hchk:a2k c.H0 σ0 0 anc es=true) (hl:aft.length=es.length)
  (hp:Part aft E i) (ho:ops[i]?=some o) (hm:m.ok P c.nt ops o=true) (hi:es[i]?=some e) (hev:Ev P c.H0 m e (fold (fun j=>decide (j<i)) 0 es σ0)) (hR:Rel P c g (fold E 0 es σ0) a w) (hP:b8j anc es σ0 E g w)
  (hK:∀g' a' w',Rel P c g' (fold (a4v E i) 0 es σ0) a' w'→b8j anc es σ0 (a4v E i) g' w'→K' a' w'):wpOp P ops Q i K' a w:=by
 have hm':=hm
 simp only [MOp.ok,wG] at hm'
 obtain ⟨⟨hins,h2⟩,h3⟩:=hm'
 obtain ⟨hdd,hlt⟩:=a92 h2
 obtain ⟨hdst,hev⟩:=hev
 have apt:∀{k:Nat} {e':Ent},es[k]?=some e'→k≠i→E k≠decide (k<i)→b0w e e':=fun hk hne hE=>(a9m hanc hchk hl hp hi hk hne hE).1
 have henv:∀s∈e.uses,find s (fold E 0 es σ0).env=find s (fold (fun j=>decide (j<i)) 0 es σ0).env:=fun s hs=>b1m rfl fun k e' hk hne hd=>by
  rw [vC] at hne
  by_cases hki:k=i
  ·subst hki;rw [hp.out] at hne;simp at hne
  ·exact (apt hk hki hne).ud s hd hs
 have hheap:∀n∈e.touch,find n (fold E 0 es σ0).heap=find n (fold (fun j=>decide (j<i)) 0 es σ0).heap∨∃k e',n∈e'.ids∧E k=true∧b3o anc es i k e e':=fun n hn=>by
  by_cases hx:∃k e',n∈e'.ids∧E k=true∧b3o anc es i k e e'
  ·exact .inr hx
  ·refine .inl (a6c rfl fun k e' hk hne hd=>?_)
   rw [vC] at hne
   by_cases hki:k=i
   ·subst hki;rw [hp.out] at hne;simp at hne
   ·rcases (a9m hanc hchk hl hp hi hk hki hne).2.2 with h|h
    ·exact h n hd hn
    ·refine hx ⟨k,e',hd,?_,h⟩
     have:=h.lt
     cases hE:E k with
     | true=>rfl
     | false=>rw [hE] at hne;simp at hne;omega
 have later:∀k e',es[k]?=some e'→i<k→a4v E i (0+k)=true→b0w e e':=fun k e' hk hik hE=>by
  rw [vC,a2d (by omega)] at hE
  exact apt hk (by omega) (by rw [hE];simp;omega)
 have hsameE:∀s,find s (fold (a4v E i) 0 es σ0).env=find s (e.app (fold E 0 es σ0)).env:=fun s=>by
  by_cases hd:e.dst=some s
  ·rw [a8v (τ:=fold E 0 es σ0) hi (by rw [vC];exact a3k) hd fun k e' hk hik hE=>(later k e' hk hik hE).dd s hd]
  ·rw [a7r,if_neg hd]
   refine b1m rfl fun k e' hk hne hd'=>?_
   rw [vC] at hne
   by_cases hki:k=i
   ·subst hki;rw [hi] at hk;cases hk;exact hd hd'
   ·rw [a2d hki] at hne;exact hne rfl
 have hsameH:∀n,find n (fold (a4v E i) 0 es σ0).heap=find n (e.app (fold E 0 es σ0)).heap:=fun n=>by
  by_cases hd:n∈e.ids
  ·rw [a7e (τ:=fold E 0 es σ0) hi (by rw [vC];exact a3k) hd fun k e' hk hik hE=>(later k e' hk hik hE).ii n hd]
  ·rw [a2c hd]
   refine a6c rfl fun k e' hk hne hd'=>?_
   rw [vC] at hne
   by_cases hki:k=i
   ·subst hki;rw [hi] at hk;cases hk;exact hd hd'
   ·rw [a2d hki] at hne;exact hne rfl
 have one:∀{g':Gh} {a':Act} {w':World},Rel P c g' (e.app (fold E 0 es σ0)) a' w'→Rel P c g' (fold (a4v E i) 0 es σ0) a' w':=fun hr=>hr.congr hsameE hsameH
 have away:∀{l k:Nat} {x y:Ent},b3o anc es l k x y→k≠i→E l=false→l≠i→E k=true→∀v id d o,y.eff=some ⟨v,[id],[(d,o)]⟩→id∉e.ids∧d∉e.ids:=fun {l k x y} hla hki hEl hli hEk v id d o hy=>by
  have hyid:id∈y.ids∧d∈y.ids:=by simp [Ent.ids,hy,Eff.ids]
  by_cases hlt:i<k
  ·have h0:=apt hla.snd (by omega) (by rw [hEk];simp;omega)
   exact ⟨fun h=>h0.ii _ h hyid.1,fun h=>h0.ii _ h hyid.2⟩
  ·obtain ⟨_,_,v',id',d',o',hy',_,hlone,_⟩:=a4y hla.ok
   rw [hy] at hy';cases hy'
   have hlk:=hla.lt
   have hik:k<i:=by omega
   have e1:(es.drop (l+1))[k - (l+1)]?=some y:=by rw [xM,show l+1+(k - (l+1))=k from by omega];exact hla.snd
   have e2:(es.drop (l+1))[i - (l+1)]?=some e:=by rw [xM,show l+1+(i - (l+1))=i from by omega];exact hi
   have no:¬(id∈e.ids∨d∈e.ids):=fun h=>by
    have:=b2g hlone e1 e2 (.inl hyid.1) h
    omega
   exact ⟨fun h=>no (.inl h),fun h=>no (.inr h)⟩
 have keepP:∀{f:Eff} {g':Gh} {w':World},e.eff=some f→a07 g (fold E 0 es σ0).heap w f g' w'→∀l k x y,b3o anc es l k x y→k≠i→a4v E i l=false→a4v E i k=true→∀v id d o,y.eff=some ⟨v,[id],[(d,o)]⟩→∀kk xs t,find id (fold (fun j=>decide (j<k)) 0 es σ0).heap=some (.arr kk xs t) →
   c9d (fold (a4v E i) 0 es σ0).heap g' w' id kk xs d:=fun {f g' w'} hf hs l k x y hla hki hEl hEk v id d o hy kk xs t hfd=>by
  have hli:l≠i:=fun h=>by subst h;rw [a3k] at hEl;cases hEl
  rw [a2d hli] at hEl
  rw [a2d hki] at hEk
  have ids:e.ids=f.ids:=by simp [Ent.ids,hf]
  obtain ⟨h1,h2⟩:=away hla hki hEl hli hEk v id d o hy
  rw [ids] at h1 h2
  refine ((hP l k x y hla hEl hEk v id d o hy kk xs t hfd).step hR.hp hs h1 h2).congr ?_
  rw [hsameH]
  unfold Ent.app
  rw [hf]
  rfl
 have idle:e.eff=none→b8j anc es σ0 (a4v E i) g w:=fun hn l k x y hla hEl hEk v id d o hy kk xs t hfd=>by
  have hli:l≠i:=fun h=>by subst h;rw [a3k] at hEl;cases hEl
  have hki:k≠i:=fun h=>by
   subst h
   have:=hla.snd
   rw [hi] at this;cases this
   rw [hn] at hy;cases hy
  rw [a2d hli] at hEl
  rw [a2d hki] at hEk
  refine (hP l k x y hla hEl hEk v id d o hy kk xs t hfd).congr ?_
  rw [hsameH,a2c (by simp [Ent.ids,hn])]
 have ran:∀gs,Ran P c.H0 m e (fold (fun j=>decide (j<i)) 0 es σ0) gs→o.wp P a w K' Q:=by
  rintro gs ⟨f,k1,k2,k3,k4,k5⟩
  have hvals:m.ins.opds.map (·.ev (fold E 0 es σ0).env)=m.ins.opds.map (·.ev (fold (fun j=>decide (j<i)) 0 es σ0).env):=d2k fun n hn=>henv n (by rw [k3];exact zU _ hn)
  have fin0:∀{g':Gh} {v:Value} {w':World},a07 g (fold E 0 es σ0).heap w f g' w'→a0v c.H0 g g' (fold E 0 es σ0) f→VR g' w' v f.val→b8j anc es σ0 (a4v E i) g' w'→K' (a.put o.dst v) w':=fun {g' v w'} hs hf hv hpin=>by
   refine hK g' _ w' (one ?_) hpin
   have:e.app (fold E 0 es σ0)=(fold E 0 es σ0).app m.dst f:=by unfold Ent.app;rw [k1,hdst]
   rw [this,←hdd]
   exact hR.step hlt hs hf hv
  by_cases hsp:∃n k e',n∈e.touch∧n∈e'.ids∧E k=true∧b3o anc es i k e e'
  · -- a load behind the append that consumes its row
   obtain ⟨n,k,y,hn,hny,hEk,hla⟩:=hsp
   obtain ⟨q,hq1,hq2⟩:=hla.mark
   have hkl:k<ms.length:=by rw [←b9x hevs];exact (zG.1 hla.snd).1
   obtain ⟨happ,ml,hml,hld⟩:=b2l (all:=ms) (l:=i) hlate hq1 (zJ hkl) hq2
   rw [hms] at hml;cases hml
   obtain ⟨_,_,v,id,d,ob',hy,hdt,hlone,_⟩:=a4y hla.ok
   have hyids:y.ids=[id,d]:=by simp [Ent.ids,hy,Eff.ids]
   have hnid:n=id:=by
    rw [hyids] at hny
    rcases w4.1 hny with h|h
    ·exact h
    ·exact absurd (by rw [xI.1 h] at hn;exact hn) hdt
   subst hnid
   have hevk:=c7s (i:=0) (k:=k) hevs (zJ hkl) hla.snd
   rw [vC] at hevk
   obtain ⟨_,hevk⟩:=hevk
   have hrk:∃gs,Ran P c.H0 ms[k] y (fold (fun j=>decide (j<k)) 0 es σ0) gs:=by
    rcases hevk with ⟨_,hr⟩|⟨s,want,b,_,_,_,⟨_,hr⟩|⟨_,hr⟩⟩|⟨s,want,_,_,_,hr⟩
    ·exact ⟨_,hr⟩
    ·exact ⟨_,hr⟩
    ·rw [hy] at hr;cases hr
    ·rw [hy] at hr;cases hr
   obtain ⟨gs',f',r1,r2,r3,r4,r5⟩:=hrk
   rw [hy] at r1;cases r1
   cases hik:ms[k].ins<;>rw [hik] at happ<;>try (cases happ;done)
   rename_i ka by' xa ya tya
   rw [hik] at r2
   obtain ⟨_,lo,nn,xs,t0,hxa,hob⟩:=d4i r2
   have hob':find n (fold (fun j=>decide (j<k)) 0 es σ0).heap=some (.arr ka xs t0):=hob
   cases hil:m.ins<;>rw [hil] at hld<;>try (cases hld;done)
   rename_i nl al
   rw [hil] at k2 k4 hins hvals
   have hf0:f.ids=[]:=by
    obtain ⟨r,hr1,hr2⟩:=d3t (K:=fun r=>evl r=f) (L:=fun r=>evl r=f) k2
    have:evl r=f:=hr1.elim id id
    rw [←this];rfl
   have heids:e.ids=[]:=by simp [Ent.ids,k1,hf0]
   have hsame:find n (fold (fun j=>decide (j<i)) 0 es σ0).heap=find n (fold (fun j=>decide (j<k)) 0 es σ0).heap:=a6c rfl fun q e' hqe hne hd=>by
    rw [vC] at hne
    have hik':=hla.lt
    have hq1:i≤q∧q<k:=by
     by_cases h1:q<i<;>by_cases h2:q<k<;>simp [h1,h2] at hne<;>omega
    by_cases hqi:q=i
    ·subst hqi;rw [hi] at hqe;cases hqe;rw [heids] at hd;cases hd
    ·have e1:(es.drop (i+1))[k - (i+1)]?=some y:=by rw [xM,show i+1+(k - (i+1))=k from by omega];exact hla.snd
     have e2:(es.drop (i+1))[q - (i+1)]?=some e':=by rw [xM,show i+1+(q - (i+1))=q from by omega];exact hqe
     have:=b2g hlone e1 e2 (.inl (by rw [hyids];exact xJ)) (.inl hd)
     omega
   have hobi:c3l (fold (fun j=>decide (j<i)) 0 es σ0).heap n=some (.arr ka xs t0):=hsame.trans hob'
   have hvals':al.ev (fold E 0 es σ0).env=al.ev (fold (fun j=>decide (j<i)) 0 es σ0).env:=by simpa [a06.opds] using hvals
   rw [k4] at hn
   simp only [a06.opds,w5,vH,a06.touch] at hn k2
   have k2:sLd nl (al.ev (fold (fun j=>decide (j<i)) 0 es σ0).env) (c3l (fold (fun j=>decide (j<i)) 0 es σ0).heap) (fun r=>evl r=f) (fun r=>evl r=f):=k2
   cases hal:al.ev (fold (fun j=>decide (j<i)) 0 es σ0).env<;>rw [hal] at hn k2<;>try (exact (List.not_mem_nil hn).elim)
   case ptr id0 off =>
    simp only [vid,xI] at hn;subst hn
    simp only [sLd,hobi] at k2
   case osl id0 _ _ _=>exact k2.elim
   case omap id0=>exact k2.elim
   case bptr id0=>exact k2.elim
   case optr id0 k0 i0 off =>
    simp only [vid,xI] at hn;subst hn
    simp only [sLd,hobi] at k2
    by_cases hkk:Nat.beq k0 ka=true
    case neg=>simp [hkk] at k2
    simp only [hkk,vQ] at k2
    have:=zR hkk;subst this
    obtain ⟨q,hq,hpt⟩:=k2
    have pin:=hP i k e y hla hp.out hEk v n d ob' hy k0 xs t0 hob'
    refine f9d hins hR (by rw [hvals'];exact hal) pin hq (K:=fun u=>u=f) (L:=fun u=>u=f) hpt fun eff he g' v' w' hs hf hv=>?_
    have he':eff=f:=he.elim id id
    subst he'
    refine fin0 hs hf hv fun l k' x' y' hla' hEl hEk'=>?_
    by_cases hki:k'=i
    ·exfalso
     subst hki
     have:=hla'.snd
     rw [hi] at this;cases this
     obtain ⟨_,_,_,_,_,_,hy2,_,_⟩:=a4y hla'.ok
     have:e.ids≠[]:=by simp [Ent.ids,hy2,Eff.ids]
     exact this heids
    ·exact keepP k1 hs l k' x' y' hla' hki hEl hEk'
  ·have hheap:∀n∈e.touch,find n (fold E 0 es σ0).heap=find n (fold (fun j=>decide (j<i)) 0 es σ0).heap:=fun n hn=>(hheap n hn).elim id fun ⟨k,e',h1,h2,h3⟩=>absurd ⟨n,k,e',hn,h1,h2,h3⟩ hsp
   rw [←hvals] at k2
   have k2':=c9r (ob':=c3l (fold E 0 es σ0).heap) (fun id hid=>(by
    have:=hheap id (by rw [k4,←hvals];exact hid)
    unfold c3l;exact this.symm)) k2
   have hcl:∀n∈m.ins.creates m.d,Clean c (fold E 0 es σ0) n:=fun n hn=>by
    rw [←k5] at hn
    exact b4w (b0t hchk hi n hn) fun k e' hk hE f' hf'=>by
     rw [vC] at hE
     exact c3j hanc hchk hl hp hi hk hE n hn f' hf'
   by_cases happ:m.ins.isApp=true
   · -- an append: its row can still be read
    cases hia:m.ins<;>rw [hia] at happ<;>try (cases happ;done)
    rename_i ka by' xa ya tya
    rw [hia] at hins k2' hcl k4 hvals
    refine d3r (K:=fun u=>u=f) (L:=fun u=>u=f) (d:=m.d) hins hR (fun id o h=>h) (hcl m.d (by simp [a06.creates])) k2' fun eff he g' v w' hs hf hv hpa=>?_
    have he':eff=f:=he
    subst he'
    refine fin0 hs hf hv fun l k x y hla hEl hEk v0 id d o0 hy kk xs t hfd=>?_
    by_cases hki:k=i
    ·subst hki
     have:=hla.snd
     rw [hi] at this;cases this
     rw [hy] at k1;cases k1
     have k2'':c0t ka by' m.d tya (xa.ev (fold E 0 es σ0).env) (ya.ev (fold E 0 es σ0).env) (c3l (fold E 0 es σ0).heap) (fun u=>u=⟨v0,[id],[(d,o0)]⟩):=k2'
     obtain ⟨hd,lo,n,xs',t0,hxa,hob⟩:=d4i k2''
     subst hd
     have hid:id∈e.touch:=by
      rw [k4,←hvals]
      simp [a06.opds,a06.touch,hxa,vid]
     have h8:=hheap id hid
     have h9:find id (fold E 0 es σ0).heap=_:=hob
     rw [h8,hfd] at h9
     cases h9
     have h7:=hpa id ka lo n ka xs t hxa hob
     have hne:id≠m.d:=by
      obtain ⟨_,_,_,_,_,_,hy2,_,_,hne⟩:=a4y hla.ok
      rw [hy] at hy2;cases hy2;exact hne
     refine h7.w (hs.agree id fun o' ho'=>?_) ?_
     ·simp at ho';exact hne ho'.1
     ·rw [hsameH]
      unfold Ent.app
      rw [hy]
      exact ⟨o0,by simp [St.app,Eff.heap,puts,a0s]⟩
    ·exact keepP k1 hs l k x y hla hki hEl hEk v0 id d o0 hy kk xs t hfd
   ·refine b7b m.ins (d:=m.d) hins hR (fun id o h=>h) hcl k2' fun eff he g' v w' hs hf hv=>?_
    have he':eff=f:=he.elim id id
    subst he'
    refine fin0 hs hf hv fun l k x y hla hEl hEk=>?_
    by_cases hki:k=i
    ·exfalso
     subst hki
     obtain ⟨q,hq1,hq2⟩:=hla.mark
     exact happ (b2l (all:=ms) (l:=l) hlate hq1 hms hq2).1
    ·exact keepP k1 hs l k x y hla hki hEl hEk
 simp only [wpOp,ho]
 rcases hev with ⟨hg,hr⟩|⟨s,want,b,hg,hb,hsu,hr⟩|⟨s,want,hg,hb,hsu,hr⟩
 ·rw [hg] at h3
  simp only [a9v h3,if_true]
  exact .inl (ran _ hr)
 ·rw [hg] at h3
  have hb':get s (fold E 0 es σ0).env=.bool b:=by rw [a1m,henv s hsu,←a1m];exact hb
  rw [a6b h3 hR hb']
  rcases hr with ⟨rfl,hr⟩|⟨hbn,hr⟩
  ·have hw:c9c b b=true:=by cases b<;>rfl
   simp only [hw,if_true]
   exact .inl (ran _ hr)
  ·have hw:c9c b want=false:=by rw [hbn];cases want<;>rfl
   simp only [hw,xN,if_false]
   refine hK g _ w (one ?_) (idle hr)
   have:e.app (fold E 0 es σ0)=⟨a5f m.dst (fold E 0 es σ0).env,(fold E 0 es σ0).heap⟩:=by unfold Ent.app;rw [hr,hdst]
   rw [this,←hdd]
   exact hR.undef' hlt
 ·rw [hg] at h3
  have hb':get s (fold E 0 es σ0).env=.tup []:=by rw [a1m,henv s hsu,←a1m];exact hb
  rw [b2s h3 hR hb']
  simp only [xN,if_false]
  refine hK g _ w (one ?_) (idle hr)
  have:e.app (fold E 0 es σ0)=⟨a5f m.dst (fold E 0 es σ0).env,(fold E 0 es σ0).heap⟩:=by unfold Ent.app;rw [hr,hdst]
  rw [this,←hdd]
  exact hR.undef' hlt
theorem c8u (hlate:a8m ms ms anc=true) (hok:a18 P c.nt ops ms ops.toList=true) (haft:b1c aft ops.toList=true) (hanc:a9c anc 0 aft anc=true) (hchk:a2k c.H0 σ0 0 anc es=true) (hevs:Evs P c.H0 ms es σ0)
  (hK:∀g a w,Rel P c g (b3w es σ0) a w→Q .normal a w):∀(fuel:Nat) (E:Nat→Bool) (listed:Array Bool) (g:Gh) (a:Act) (w:World),listed.size=ops.size→(∀i,i<ops.size→listed.getD i true=E i∧listed.getD i false=E i) →
   (∀k a,aft[k]?=some a→E k=true→∀x∈a,E x=true)→((List.range ops.size).filter fun i=>!E i).length≤fuel→Rel P c g (fold E 0 es σ0) a w→b8j anc es σ0 E g w→wpAny P .any ops Q fuel listed a w:=by
 have hml:ms.length=ops.size:=by rw [b4m hok,xG]
 have hel:es.length=ops.size:=by rw [b9x hevs,hml]
 have hat:∀{i:Nat} {o:Oper},ops[i]?=some o→∃b,aft[i]?=some b∧b=(o.after.toList.filter (Region.binds .any)).map (·.on):=fun ho=>c2i haft (by rw [zW];exact ho)
 have hal:aft.length=ops.size:=by
  have:∀{aft:List (List Nat)} {os:List Oper},b1c aft os=true→aft.length=os.length:=by
   intro aft
   induction aft with
   | nil=>intro os h;cases os with|nil=>rfl|cons _ _=>cases h
   | cons a r ih =>
    intro os h
    cases os with
    | nil=>cases h
    | cons o s=>simp only [b1c,wG] at h;simp only [wC,ih h.2]
  rw [this haft,xG]
 have done:∀(E:Nat→Bool) (listed:Array Bool),(∀i,i<ops.size→listed.getD i true=E i∧listed.getD i false=E i)→Region.ready .any ops listed=[]→∀i,i<ops.size→E i=true:=by
  intro E listed hls hr i
  induction i using Nat.strongRecOn with
  | _ i ih =>
   intro hi
   cases hE:E i with
   | true=>rfl
   | false =>
    exfalso
    have ho:ops[i]?=some ops[i]:=zI hi
    have:i∈Region.ready .any ops listed:=by
     rw [mem_ready]
     refine ⟨by rw [(hls i hi).1];exact hE,ops[i],ho,fun ed hed hb=>?_⟩
     obtain ⟨b,hb1,hb2⟩:=hat ho
     obtain ⟨_,_,hbel,_⟩:=a5h hanc hb1
     have hmem:ed.on∈b:=by rw [hb2];exact vG.2 ⟨ed,wM.2 ⟨by simpa using hed,hb⟩,rfl⟩
     have hlt:=a99 hbel _ hmem
     rw [vC] at hlt
     rw [(hls ed.on (by omega)).2]
     exact ih ed.on hlt (by omega)
    rw [hr] at this;cases this
 have fin:∀(E:Nat→Bool) (listed:Array Bool) g a w,(∀i,i<ops.size→listed.getD i true=E i∧listed.getD i false=E i)→Rel P c g (fold E 0 es σ0) a w→Region.ready .any ops listed=[]→Q .normal a w:=fun E listed g a w hls hR hr=>by
  have hall:=done E listed hls hr
  rw [c1w fun k hk=>by rw [vC];exact hall k (by omega)] at hR
  exact hK g a w hR
 intro fuel
 induction fuel with
 | zero =>
  intro E listed g a w hsz hls hdown hcard hR hP
  have hr:Region.ready .any ops listed=[]:=by
   cases hrr:Region.ready .any ops listed with
   | nil=>rfl
   | cons i r =>
    exfalso
    have hmem:i∈Region.ready .any ops listed:=by rw [hrr];exact xJ
    obtain ⟨h1,o,ho,_⟩:=mem_ready.1 hmem
    have hi:=(zF.1 ho).1
    rw [(hls i hi).1] at h1
    have:i∈(List.range ops.size).filter fun i=>!E i:=wM.2 ⟨List.mem_range.2 hi,by simp [h1]⟩
    rw [zB (Nat.le_zero.1 hcard)] at this
    cases this
  exact ⟨hr,fin E listed g a w hls hR hr⟩
 | succ fuel ih =>
  intro E listed g a w hsz hls hdown hcard hR hP
  refine ⟨fun hr=>fin E listed g a w hls hR hr,fun i hmem=>?_⟩
  obtain ⟨h1,o,ho,hedges⟩:=mem_ready.1 hmem
  have hi:=(zF.1 ho).1
  rw [(hls i hi).1] at h1
  obtain ⟨m,hms,hmok⟩:=b71 hok (by rw [zW];exact ho)
  have hie:es[i]?=some es[i]:=zJ (by omega)
  obtain ⟨b,hb1,hb2⟩:=hat ho
  obtain ⟨_,_,hbel,_⟩:=a5h hanc hb1
  have hbE:∀x∈b,E x=true:=fun x hx=>by
   have hlt:=a99 hbel _ hx
   rw [vC] at hlt
   rw [hb2] at hx
   obtain ⟨ed,hed,rfl⟩:=vG.1 hx
   obtain ⟨hed1,hed2⟩:=wM.1 hed
   rw [←(hls ed.on (by omega)).2]
   exact hedges ed (by simpa using hed1) hed2
  have hp:Part aft E i:=⟨hdown,h1,fun a' ha'=>by rw [hb1] at ha';cases ha';exact hbE⟩
  have hev:=c7s (i:=0) (k:=i) hevs hms hie
  rw [vC] at hev
  refine c9q hlate hevs hms hanc hchk (by omega) hp ho hmok hie hev hR hP fun g' a' w' hR' hP'=>?_
  refine ih (a4v E i) _ g' a' w' (by simpa using hsz) (fun k hk=>?_) (fun k a' ha' hE x hx=>?_) ?_ hR' hP'
  ·by_cases hki:k=i
   ·subst hki
    rw [a3k]
    have:k<listed.size:=by omega
    simp [this]
   ·rw [a2d hki,getD_set_ne true (Ne.symm hki),getD_set_ne false (Ne.symm hki)]
    exact hls k hk
  ·by_cases hki:k=i
   ·subst hki
    rw [hb1] at ha';cases ha'
    have hne:x≠k:=fun h=>by have:=hbE x hx;rw [h,h1] at this;cases this
    rw [a2d hne];exact hbE x hx
   ·rw [a2d hki] at hE
    have:=hdown k a' ha' hE x hx
    by_cases hxi:x=i
    ·rw [hxi];exact a3k
    ·rw [a2d hxi];exact this
  ·have hlt:((List.range ops.size).filter fun k=>!a4v E i k).length<((List.range ops.size).filter fun k=>!E k).length:=by
    have hsub:((List.range ops.size).filter fun k=>!a4v E i k)=(((List.range ops.size).filter fun k=>!E k).filter fun k=>!Nat.beq k i):=by
     rw [List.filter_filter]
     refine List.filter_congr fun k _=>?_
     unfold a4v
     cases Nat.beq k i<;>cases E k<;>rfl
    rw [hsub]
    refine List.length_filter_lt_length_iff_exists.2 ⟨i,wM.2 ⟨List.mem_range.2 hi,by simp [h1]⟩,by simp⟩
   omega
theorem b9e {K:St→Prop} {g:Gh} {a:Act} {w:World} (hmix:P.follows .mixedOrders=true) (hK:∀σ' g' a' w',K σ'→Rel P c g' σ' a' w'→Q .normal a' w') (hok:a18 P c.nt ops ms ops.toList=true) (haft:b1c aft ops.toList=true)
  (hanc:a9c anc 0 aft anc=true) (hlate:a8m ms ms anc=true) (hR:Rel P c g σ0 a w) (h:c5o P c.H0 ms [] σ0 fun log σ'=>a2k c.H0 σ0 0 anc log.reverse=true∧K σ') (t:Nat):wpOps P ops Q (Region.schedule (P.follows .mixedOrders) ops t) a { w with drawn:=w.drawn+1 }:=by
 obtain ⟨es,hevs,hchk,hk⟩:=a8c h
 rw [wS,List.reverse_reverse] at hchk
 simp only [Region.schedule,hmix,Bool.true_or,if_true]
 refine wpAny_sound ops.size t _ a _ (c8u hlate hok haft hanc hchk hevs (fun g a w hr=>hK _ g a w hk hr) ops.size (fun _=>false) _ g a _ (by simp) (fun i hi=>by simp [hi]) (fun _ _ _ h=>by cases h) ?_ ?_ (fun _ _ _ _ _ _ h=>by cases h))
 ·exact vD (List.length_filter_le _ _) (by simp)
 ·rw [b2w (fun _=>rfl)]
  exact hR.drew
end
inductive a3l where
 | gc (keep:List Nat)
 | acc (s id k:Nat)
 | shut (id:Nat)
 | shq (id:Nat)
 | fact (s:Nat)
 | ren (a b:Nat)
 | renq (a b:Nat)
 | ownC (id off id2 k:Nat) (ty:Option TypeId)
 | fz (s:Nat)
 | trim (s:Nat)
 | fzc (s:Nat)
 | nm (id z k:Nat)
 | adq (s q:Nat)
 | toA (s q:Nat)
 | ofA (s q:Nat)
 | accA (s off id k:Nat)
def V.isB (id:Nat):V→Bool
 | .nilp=>true
 | .ptr j off=>Nat.beq j id&&Nat.beq off 0
 | .bptr j=>Nat.beq j id
 | _=>false
mutual
def V.fact:V→Prop
 | .int k n=>rng k n
 | .str s=>s.length≤9223372036854775807
 | .sl xs=>xs.length≤9223372036854775807∧b65 xs
 | .osl _ _ _ n=>n≤9223372036854775807
 | .agg cs=>V.factL cs
 | .tup cs=>V.factL cs
 | .eptr x _=>x.fact
 | _=>True
def V.factL:List V→Prop
 | []=>True
 | x::r=>x.fact∧V.factL r
def b65:List V→Prop
 | []=>True
 | x::r=>x.fact∧b65 r
end
theorem b2z:∀{xs:List V},b65 xs↔∀x∈xs,x.fact
 | []=>by simp [b65]
 | x::r=>by simp [b65,b2z (xs:=r)]
theorem a4r:∀{xs:List V},V.factL xs↔∀x∈xs,x.fact
 | []=>by simp [V.factL]
 | x::r=>by simp [V.factL,a4r (xs:=r)]
theorem a8k {n:Nat} (h:n≤maxLen):n≤9223372036854775807:=vD h (by unfold maxLen;decide)
theorem a9z {x:V} (h:∀(j:Nat) (c:V),x.cells[j]?=some c→c.fact):x.fact:=by
 cases x with
 | agg cs =>
  simp only [V.fact]
  refine a4r.2 fun c hc=>?_
  obtain ⟨j,hj⟩:=zT.1 hc
  exact h j c hj
 | _=>exact h 0 _ rfl
theorem Rd.fact {S:Nat→Prop} {w:World} {v:Value} {x:V} (h:Rd S w v x):x.fact:=by
 induction h with
 | int k n h=>exact a1a.1 h
 | str s h =>
  simp only [V.fact]
  have:s.data.toList.length=s.size:=by rw [xG];rfl
  rw [this];exact a8k h
 | agg vs cs hl hr ih =>
  simp only [V.fact]
  refine a4r.2 fun c hc=>?_
  obtain ⟨j,hj⟩:=zT.1 hc
  exact ih j c hj
 | nilsl=>simp [V.fact,b65]
 | slz a cap=>simp [V.fact,b65]
 | sl g o len cap k cur e fz xs hS hg hl hm hc hb hk hr ih =>
  simp only [V.fact]
  refine ⟨by rw [hl];exact a8k hm,b2z.2 fun x hx=>?_⟩
  obtain ⟨i,hi⟩:=zT.1 hx
  exact a9z fun j c hj=>ih i j x c hi hj
 | _=>simp [V.fact]
theorem VR.fact {g:Gh} {w:World} {v:Value} {x:V} (h:VR g w v x):x.fact:=by
 induction h with
 | rd h=>exact h.fact
 | eptr b o off cur e fz x hS hg hb hr=>simp only [V.fact];exact a9z fun j c hc=>(hr j c hc).fact
 | oslnil=>simp [V.fact]
 | osl id k lo len o c h ho hc hl hm=>simp only [V.fact];exact a8k (vD hl hm)
 | agg vs cs hl hr ih =>
  simp only [V.fact]
  refine a4r.2 fun c hc=>?_
  obtain ⟨j,hj⟩:=zT.1 hc
  exact ih j c hj
 | tup vs cs hl hr ih =>
  simp only [V.fact]
  refine a4r.2 fun c hc=>?_
  obtain ⟨j,hj⟩:=zT.1 hc
  exact ih j c hj
 | _=>simp [V.fact]
def c29:List (Nat×V)→Prop
 | []=>True
 | (_,x)::r=>x.fact∧c29 r
def a0c.fact:a0c→Prop
 | .arr _ xs _=>xs.length≤9223372036854775807∧b65 xs
 | .cells cs _=>V.factL cs
 | .map _ es=>∀e∈es,e.1.fact∧e.2.fact
 | .iter es _=>∀e∈es,e.1.fact∧e.2.fact
 | .mark=>True
 | .nmap _ _ _ es=>∀e∈es,e.1.fact∧e.2.fact
def a90:Heap→Prop
 | []=>True
 | (_,x)::r=>x.fact∧a90 r
theorem OR.fact {g:Gh} {w:World} {id:Nat} {o:a0c} (h:OR g w id o):o.fact:=by
 cases o with
 | cells cs ty =>
  obtain ⟨_,cur,e,fz,_,_,_,h4⟩:=h
  refine a4r.2 fun c hc=>?_
  obtain ⟨j,hj⟩:=zT.1 hc
  exact (h4 j c hj).fact
 | arr k xs ty =>
  rcases h with ⟨_,rfl⟩|⟨_,_,⟨cur,e,fz,_,_,_,h4⟩,h5,h6,_⟩
  ·simp [a0c.fact,b65]
  ·refine ⟨a8k (by omega),b2z.2 fun x hx=>?_⟩
   obtain ⟨i,hi⟩:=zT.1 hx
   exact a9z fun j c hj=>(h4 i j x c hi hj).fact
 | map kd es =>
  obtain ⟨_,ents,clock,_,he,_⟩:=h
  intro kv hm
  obtain ⟨i,hi⟩:=zT.1 hm
  have hlt:i<ents.toList.length:=by
   rw [he.len];exact (zG.1 hi).1
  obtain ⟨h5,h6⟩:=he.rd i ents.toList[i] kv (zJ hlt) hi
  exact ⟨h5.fact,h6.fact⟩
 | mark=>trivial
 | nmap z k kd es =>
  obtain ⟨_,ents,clock,_,he,_⟩:=h
  intro kv hm
  obtain ⟨i,hi⟩:=zT.1 hm
  have hlt:i<ents.toList.length:=by
   rw [he.len];exact (zG.1 hi).1
  obtain ⟨h5,h6⟩:=he.rd i ents.toList[i] kv (zJ hlt) hi
  exact ⟨h5.fact,h6.fact⟩
 | iter rem cur =>
  obtain ⟨_,h⟩:=h
  rcases h with ⟨x,y,z,_,rfl,_⟩|⟨m,clock,seen,ents,_,_,_,_,_,hl,hr,_⟩
  ·intro kv hm;cases hm
  ·intro kv hm
   obtain ⟨i,hi⟩:=zT.1 hm
   have hlt:i<(ents.toList.filter fun e=>!seen.contains e.born).length:=by
    rw [hl];exact (zG.1 hi).1
   obtain ⟨h5,h6⟩:=hr i _ kv (zJ hlt) hi
   exact ⟨h5.fact,h6.fact⟩
mutual
def V.ren (a b:Nat):V→V
 | .ptr id off=>.ptr (bif Nat.beq id a then b else id) off
 | .osl id k lo n=>.osl (bif Nat.beq id a then b else id) k lo n
 | .optr id k i off=>.optr (bif Nat.beq id a then b else id) k i off
 | .omap id=>.omap (bif Nat.beq id a then b else id)
 | .bptr id=>.bptr (bif Nat.beq id a then b else id)
 | .nsl z k xs=>.nsl (bif Nat.beq z a then b else z) k xs
 | .nsmap z k kd es=>.nsmap (bif Nat.beq z a then b else z) k kd es
 | .at_ id x=>.at_ (bif Nat.beq id a then b else id) x
 | .agg cs=>.agg (V.renL a b cs)
 | .tup cs=>.tup (V.renL a b cs)
 | .fn f cs=>.fn f (V.renL a b cs)
 | x=>x
def V.renL (a b:Nat):List V→List V
 | []=>[]
 | x::r=>x.ren a b::V.renL a b r
end
def c97 (a b:Nat):List (Nat×V)→List (Nat×V)
 | []=>[]
 | (n,x)::r=>(n,x.ren a b)::c97 a b r
def a0c.ren (a b:Nat):a0c→a0c
 | .cells cs t=>.cells (V.renL a b cs) t
 | .nmap z k kd es=>.nmap (bif Nat.beq z a then b else z) k kd es
 | o=>o
def c65 (a b:Nat):Heap→Heap
 | []=>[]
 | (n,o)::r=>(bif Nat.beq n a then b else n,o.ren a b)::c65 a b r
mutual
def V.shut (n:Nat) (xs:List V):V→V
 | .osl id k lo len=>bif Nat.beq n id then .sl ((xs.drop lo).take len) else .osl id k lo len
 | .agg cs=>.agg (V.sealL n xs cs)
 | .tup cs=>.tup (V.sealL n xs cs)
 | .fn f cs=>.fn f (V.sealL n xs cs)
 | .ptr id off=>bif Nat.beq n id then .any else .ptr id off
 | .optr id k i off=>bif Nat.beq n id then .any else .optr id k i off
 | .omap id=>bif Nat.beq n id then .any else .omap id
 | .bptr id=>bif Nat.beq n id then .any else .bptr id
 | x=>x
def V.sealL (n:Nat) (xs:List V):List V→List V
 | []=>[]
 | x::r=>x.shut n xs::V.sealL n xs r
end
mutual
def V.sealOK (n k m:Nat):V→Prop
 | .osl id k' lo len=>bif Nat.beq n id then (bif Nat.beq k k' then lo+len≤m else False) else True
 | .agg cs=>V.sealOKs n k m cs
 | .tup cs=>V.sealOKs n k m cs
 | .fn _ cs=>V.sealOKs n k m cs
 | _=>True
def V.sealOKs (n k m:Nat):List V→Prop
 | []=>True
 | x::r=>x.sealOK n k m∧V.sealOKs n k m r
end
def b6n (n:Nat) (xs:List V):List (Nat×V)→List (Nat×V)
 | []=>[]
 | (m,x)::r=>(m,x.shut n xs)::b6n n xs r
def a5u (n k m:Nat):List (Nat×V)→Prop
 | []=>True
 | (_,x)::r=>x.sealOK n k m∧a5u n k m r
def a0c.shut (n:Nat) (xs:List V):a0c→a0c
 | .cells cs t=>.cells (V.sealL n xs cs) t
 | o=>o
def a0c.sealOK (n k m:Nat):a0c→Prop
 | .cells cs _=>V.sealOKs n k m cs
 | _=>True
def b5g (n:Nat) (xs:List V):Heap→Heap
 | []=>[]
 | (m,o)::r=>bif Nat.beq n m then b5g n xs r else (m,o.shut n xs)::b5g n xs r
def a5t (n k m:Nat):Heap→Prop
 | []=>True
 | (_,x)::r=>x.sealOK n k m∧a5t n k m r
mutual
def V.shm (n:Nat) (y:V):V→V
 | .omap id=>bif Nat.beq n id then y else .omap id
 | .agg cs=>.agg (V.shmL n y cs)
 | .tup cs=>.tup (V.shmL n y cs)
 | .fn f cs=>.fn f (V.shmL n y cs)
 | x=>x
def V.shmL (n:Nat) (y:V):List V→List V
 | []=>[]
 | x::r=>V.shm n y x::V.shmL n y r
end
def c5j (n:Nat) (y:V):List (Nat×V)→List (Nat×V)
 | []=>[]
 | (m,x)::r=>(m,V.shm n y x)::c5j n y r
def a0c.shm (n:Nat) (y:V):a0c→a0c
 | .cells cs t=>.cells (V.shmL n y cs) t
 | o=>o
def c4q (n:Nat) (y:V):Heap→Heap
 | []=>[]
 | (m,o)::r=>bif Nat.beq n m then c4q n y r else (m,o.shm n y)::c4q n y r
def c99 (keep:List Nat):List (Nat×V)→List (Nat×V)
 | []=>[]
 | (n,x)::r=>bif mem n keep then (n,x)::c99 keep r else c99 keep r
def a0i (n:Nat):Heap→Bool
 | []=>false
 | (m,_)::r=>Nat.beq n m||a0i n r
mutual
def V.unnil:V→V
 | .nils=>.sl []
 | .agg cs=>.agg (V.unnilL cs)
 | x=>x
def V.unnilL:List V→List V
 | []=>[]
 | x::r=>x.unnil::V.unnilL r
end
mutual
def V.oids:V→List Nat
 | .osl id _ _ _=>[id]
 | .omap id=>[id]
 | .agg cs=>V.oidsL cs
 | .tup cs=>V.oidsL cs
 | _=>[]
def V.oidsL:List V→List Nat
 | []=>[]
 | x::r=>x.oids++V.oidsL r
end
def f4n (id:Nat) (σ:St) (K:St→Prop):Prop :=
 match find id σ.heap with
 | some (.arr k xs _)=>a5u id k xs.length σ.env∧a5t id k xs.length σ.heap∧K ⟨b6n id xs σ.env,b5g id xs σ.heap⟩
 | some (.map kd es)=>K ⟨c5j id (.smap kd es) σ.env,c4q id (.smap kd es) σ.heap⟩
 | some (.nmap z k kd es)=>K ⟨c5j id (.nsmap z k kd es) σ.env,c4q id (.nsmap z k kd es) σ.heap⟩
 | none=>K σ
 | _=>False
def c9t:List Nat→St→(St→Prop)→Prop
 | [],σ,K=>K σ
 | id::r,σ,K=>f4n id σ fun σ'=>c9t r σ' K
mutual
def V.tr (n lo len:Nat):V→V
 | .osl id k l m=>bif Nat.beq id n then (bif Nat.beq l lo&&Nat.beq m len then .osl id k 0 m else .any) else .osl id k l m
 | .ptr id off=>bif Nat.beq id n then .any else .ptr id off
 | .optr id k i off=>bif Nat.beq id n then .any else .optr id k i off
 | .omap id=>bif Nat.beq id n then .any else .omap id
 | .bptr id=>bif Nat.beq id n then .any else .bptr id
 | .nsl z k xs=>bif Nat.beq z n then .any else .nsl z k xs
 | .nsmap z k kd es=>bif Nat.beq z n then .any else .nsmap z k kd es
 | .agg cs=>.agg (V.trL n lo len cs)
 | .tup cs=>.tup (V.trL n lo len cs)
 | .fn f cs=>.fn f (V.trL n lo len cs)
 | x=>x
def V.trL (n lo len:Nat):List V→List V
 | []=>[]
 | x::r=>x.tr n lo len::V.trL n lo len r
end
def trE (n lo len:Nat):List (Nat×V)→List (Nat×V)
 | []=>[]
 | (m,x)::r=>(m,x.tr n lo len)::trE n lo len r
def a0c.tr (n lo len:Nat):a0c→a0c
 | .cells cs t=>.cells (V.trL n lo len cs) t
 | .nmap z k kd es=>bif Nat.beq z n then .map kd es else .nmap z k kd es
 | o=>o
def trH (n lo len:Nat):Heap→Heap
 | []=>[]
 | (m,o)::r=>(m,o.tr n lo len)::trH n lo len r
def V.isNils:V→Bool
 | .nils=>true
 | _=>false
def a0l (H0:Heap) (n:a3l) (σ:St) (K:St→Prop):Prop :=
 match n with
 | .adq s q=>match find s σ.env,find q σ.env with
  | some (.ptr id _),some _=>∀b,K ⟨put q (.at_ id b) σ.env,σ.heap⟩
  | _,_=>False
 | .toA s q=>match find s σ.env,find q σ.env with
  | some (.ptr id off),some (.at_ id' b)=>bif Nat.beq id id' then K ⟨put s (.adr b off) σ.env,σ.heap⟩ else False
  | _,_=>False
 | .ofA s q=>match find s σ.env,find q σ.env with
  | some (.adr b off),some (.at_ id b')=>b=b'∧K ⟨put s (.ptr id off) σ.env,σ.heap⟩
  | _,_=>False
 | .nm id z k=>match find id σ.heap with
  | some (.map kd es)=>match find z σ.heap with
   | some .mark=>bif es.all fun e=>e.2.isNils then K ⟨σ.env,put id (.nmap z k kd (es.map fun e=>(e.1,.sl []))) σ.heap⟩ else False
   | _=>False
  | _=>False
 | .ownC id off id2 k ty=>match find id σ.heap with
  | some (.cells cs t)=>match cs[off]? with
   | some .nils=>bif a11 H0 σ [id2]&&!a0i id2 σ.heap&&!Nat.beq id id2 then K ⟨σ.env,put id (.cells (cs.set off (.osl id2 k 0 0)) t) (put id2 (.arr k [] ty) σ.heap)⟩ else False
   | some (.osl j _ _ _)=>bif Nat.beq j id2 then K σ else bif a11 H0 σ [id2]&&!a0i id2 σ.heap&&a0i j σ.heap then K ⟨c97 j id2 σ.env,c65 j id2 σ.heap⟩ else False
   | _=>False
  | _=>False
 | .fz s=>match find s σ.env with
  | some x=>c9t x.oids σ fun σ'=>(match find s σ'.env with|some y=>K ⟨put s y.unnil σ'.env,σ'.heap⟩|none=>False)
  | none=>K σ
 | .fzc s=>match find s σ.env with
  | some (.ptr id _)=>match find id σ.heap with
   | some (.cells cs _)=>c9t (V.oidsL cs) σ fun σ'=>(match find id σ'.heap with|some (.cells ds t)=>K ⟨σ'.env,put id (.cells (V.unnilL ds) t) σ'.heap⟩|_=>False)
   | _=>False
  | _=>False
 | .trim s=>match find s σ.env with
  | some (.osl id k lo n)=>match find id σ.heap,find id H0 with
   | some (.arr k' xs t),none=>bif Nat.beq k k' then K ⟨trE id lo n σ.env,put id (.arr k ((xs.drop lo).take n) t) (trH id lo n σ.heap)⟩ else False
   | _,_=>False
  | _=>K σ
 | .gc keep=>K ⟨c99 keep σ.env,σ.heap⟩
 | .fact s=>(get s σ.env).fact→K σ
 | .ren j id=>bif a11 H0 σ [id]&&!a0i id σ.heap&&!Nat.beq j id then K ⟨c97 j id σ.env,c65 j id σ.heap⟩ else False
 | .renq j id=>bif a0i j σ.heap then (bif a11 H0 σ [id]&&!a0i id σ.heap&&!Nat.beq j id then K ⟨c97 j id σ.env,c65 j id σ.heap⟩ else False) else K σ
 | .shq id=>match find id σ.heap with
  | some (.arr k xs _)=>a5u id k xs.length σ.env∧a5t id k xs.length σ.heap∧K ⟨b6n id xs σ.env,b5g id xs σ.heap⟩
  | some (.map kd es)=>K ⟨c5j id (.smap kd es) σ.env,c4q id (.smap kd es) σ.heap⟩
  | some (.nmap z k kd es)=>K ⟨c5j id (.nsmap z k kd es) σ.env,c4q id (.nsmap z k kd es) σ.heap⟩
  | none=>K σ
  | _=>False
 | .shut id=>match find id σ.heap with
  | some (.arr k xs _)=>a5u id k xs.length σ.env∧a5t id k xs.length σ.heap∧K ⟨b6n id xs σ.env,b5g id xs σ.heap⟩
  | some (.map kd es)=>K ⟨c5j id (.smap kd es) σ.env,c4q id (.smap kd es) σ.heap⟩
  | some (.nmap z k kd es)=>K ⟨c5j id (.nsmap z k kd es) σ.env,c4q id (.nsmap z k kd es) σ.heap⟩
  | _=>False
 | .accA s off id k=>match find s σ.env with
  | some (.agg cs)=>match cs[off]? with
   | some .nils=>bif a11 H0 σ [id]&&!a0i id σ.heap then K ⟨put s (.agg (cs.set off (.osl id k 0 0))) σ.env,put id (.arr k []) σ.heap⟩ else False
   | some (.osl j _ _ _)=>bif Nat.beq j id then K σ else bif a11 H0 σ [id]&&!a0i id σ.heap&&a0i j σ.heap then K ⟨c97 j id σ.env,c65 j id σ.heap⟩ else False
   | _=>False
  | _=>False
 | .acc s id k=>match get s σ.env with
  | .nils=>bif a11 H0 σ [id]&&!a0i id σ.heap then K ⟨put s (.osl id k 0 0) σ.env,put id (.arr k []) σ.heap⟩ else False
  | .osl j _ _ _=>bif Nat.beq j id then K σ else bif a11 H0 σ [id]&&!a0i id σ.heap&&a0i j σ.heap then K ⟨c97 j id σ.env,c65 j id σ.heap⟩ else False
  | _=>False
section
variable {P:Program} {c:Ctx} {g:Gh} {σ:St} {a:Act} {w:World}
theorem b2y {keep:List Nat} {s:Nat} {x:V}:∀{env:List (Nat×V)},find s (c99 keep env)=some x→find s env=some x
 | [],h=>by cases h
 | (m, y)::r,h=>by
  simp only [c99] at h
  cases hb:Nat.beq s m with
  | true =>
   have e:=zR hb;subst e
   cases hm:mem s keep with
   | true=>rw [hm] at h;simpa [find] using h
   | false =>
    rw [hm] at h
    simp only [vO] at h
    have no:∀{env:List (Nat×V)},find s (c99 keep env)=none:=by
     intro env
     induction env with
     | nil=>rfl
     | cons p r ih =>
      obtain ⟨q,z⟩:=p
      simp only [c99]
      cases hq:mem q keep with
      | false=>simpa using ih
      | true =>
       simp only [vQ,find]
       cases hs:Nat.beq s q with
       | true=>have e:=zR hs;subst e;rw [hm] at hq;cases hq
       | false=>simpa using ih
    rw [no] at h;cases h
  | false =>
   simp only [find,hb,vO]
   cases hm:mem m keep with
   | true=>rw [hm] at h;simp only [vQ,find,hb,vO] at h;exact b2y h
   | false=>rw [hm] at h;exact b2y h
theorem a3v (p q:Nat):∀cs:List V,V.renL p q cs=cs.map (V.ren p q)
 | []=>rfl
 | x::r=>by simp [V.renL,a3v p q r]
theorem b7n (p q s:Nat):∀env:List (Nat×V),find s (c97 p q env)=(find s env).map (V.ren p q)
 | []=>rfl
 | (m,x)::r=>by
  simp only [c97,find]
  cases Nat.beq s m with
  | true=>rfl
  | false=>exact b7n p q s r
theorem a2q {n:Nat}:∀{H:Heap},a0i n H=true↔∃o,find n H=some o
 | []=>by simp [a0i,find]
 | (m,x)::r=>by
  simp only [a0i,find]
  cases Nat.beq n m with
  | true=>simp
  | false=>simpa using a2q
theorem b7m {p q:Nat} (hpq:p≠q):∀{H:Heap},a0i q H=false→∀n o,find n (c65 p q H)=some o→(n=q∧∃o',find p H=some o'∧o=o'.ren p q)∨(n≠q∧n≠p∧∃o',find n H=some o'∧o=o'.ren p q)
 | [],_,n,o,h=>by cases h
 | (m,x)::r,hq,n,o,h=>by
  simp only [a0i,xE] at hq
  obtain ⟨hqm,hqr⟩:=hq
  have ih:=b7m hpq hqr n o
  have hmq:m≠q:=fun e=>by rw [e,vE] at hqm;cases hqm
  simp only [c65] at h
  by_cases hm:m=p
  ·subst hm
   simp only [vE,vQ,find] at h
   by_cases hn:n=q
   ·subst hn
    simp only [vE,vQ,xQ] at h
    exact .inl ⟨rfl,x,by simp [find],h.symm⟩
   ·have hb:Nat.beq n q=false:=by
     cases hb:Nat.beq n q with
     | true=>exact absurd (zR hb) hn
     | false=>rfl
    simp only [hb,vO] at h
    rcases ih h with ⟨h1,_⟩|⟨h1,h2,o',h3,h4⟩
    ·exact absurd h1 hn
    ·have hb':Nat.beq n m=false:=by
      cases hb:Nat.beq n m with
      | true=>exact absurd (zR hb) h2
      | false=>rfl
     exact .inr ⟨h1,h2,o',by simp only [find,hb',vO];exact h3,h4⟩
  ·have hb:Nat.beq m p=false:=by
    cases hb:Nat.beq m p with
    | true=>exact absurd (zR hb) hm
    | false=>rfl
   simp only [hb,vO,find] at h
   by_cases hn:n=m
   ·subst hn
    simp only [vE,vQ,xQ] at h
    exact .inr ⟨hmq,hm,x,by simp [find],h.symm⟩
   ·have hb':Nat.beq n m=false:=by
     cases hb:Nat.beq n m with
     | true=>exact absurd (zR hb) hn
     | false=>rfl
    simp only [hb',vO] at h
    rcases ih h with ⟨h1,o',h3,h4⟩|⟨h1,h2,o',h3,h4⟩
    ·refine .inl ⟨h1,o',?_,h4⟩
     have hb2:Nat.beq p m=false:=by
      cases hb:Nat.beq p m with
      | true=>exact absurd (zR hb).symm hm
      | false=>rfl
     simp only [find,hb2,vO];exact h3
    ·exact .inr ⟨h1,h2,o',by simp only [find,hb',vO];exact h3,h4⟩
def Gh.dup (g:Gh) (p q:Nat):Gh :=
 ⟨g.S,fun i=>if i=q then g.ρ p else g.ρ i,fun i=>if i=q then g.base p else g.base i,fun i=>if i=q then g.cap p else g.cap i,fun i=>if i=q then g.nil p else g.nil i⟩
theorem c7y {g:Gh} {p q i:Nat} (h:i≠q):g.agree (g.dup p q) i:=by simp [Gh.agree,Gh.dup,h]
theorem a1z {g:Gh} {p q i:Nat} (h:i≠q):(g.dup p q).ρ (bif Nat.beq i p then q else i)=g.ρ i∧(g.dup p q).base (bif Nat.beq i p then q else i)=g.base i∧(g.dup p q).cap (bif Nat.beq i p then q else i)=g.cap i ∧
  ((g.dup p q).nil (bif Nat.beq i p then q else i)↔g.nil i):=by
 by_cases e:i=p
 ·subst e;simp [Gh.dup]
 ·have:Nat.beq i p=false:=by
   cases hb:Nat.beq i p with
   | true=>exact absurd (zR hb) e
   | false=>rfl
  simp [this,Gh.dup,h]
theorem VR.ren {p q:Nat} {v:Value} {x:V} (h:VR g w v x) (hq:x.has q=false):VR (g.dup p q) w v (x.ren p q):=by
 have hne:∀{i:Nat},Nat.beq q i=false→i≠q:=fun h e=>by rw [e,vE] at h;cases h
 induction h with
 | @rd v x h =>
  have:x.ren p q=x:=by
   have flat:∀{y:V} {u:Value},Rd g.S w u y→y.ren p q=y:=by
    intro y u hy
    induction hy with
    | agg vs cs hl hr ih =>
     simp only [V.ren,a3v,V.agg.injEq]
     refine xV fun i=>?_
     rw [xS]
     cases hc:cs[i]? with
     | none=>rfl
     | some c=>simp [ih i c hc]
    | _=>rfl
   exact flat h
  rw [this];exact .rd h
 | any v=>exact .any v
 | ptr id off =>
  simp only [V.has] at hq
  have:=(a1z (g:=g) (p:=p) (hne hq)).1
  simp only [V.ren];rw [←this];exact .ptr _ off
 | eptr b o off cur e fz x hS hg hb hr=>exact .eptr b o off cur e fz x hS hg hb hr
 | oslnil id k lo h =>
  simp only [V.has] at hq
  exact .oslnil _ k lo ((a1z (hne hq)).2.2.2.2 h)
 | osl id k lo len o c h ho hc hl hm =>
  simp only [V.has] at hq
  obtain ⟨h1,h2,h3,h4⟩:=a1z (g:=g) (p:=p) (hne hq)
  simp only [V.ren];rw [←h1]
  exact .osl _ k lo len o c (fun h'=>h (h4.1 h')) (by rw [h2];exact ho) (by rw [h3];exact hc) hl hm
 | optr id k i off =>
  simp only [V.has] at hq
  obtain ⟨h1,h2,h3,h4⟩:=a1z (g:=g) (p:=p) (hne hq)
  simp only [V.ren];rw [←h1,←h2];exact .optr _ k i off
 | omap id =>
  simp only [V.has] at hq
  have:=(a1z (g:=g) (p:=p) (hne hq)).1
  simp only [V.ren];rw [←this];exact .omap _
 | bnil id=>exact .bnil _
 | bself id =>
  simp only [V.has] at hq
  have:=(a1z (g:=g) (p:=p) (hne hq)).1
  simp only [V.ren];rw [←this];exact .bself _
 | at_ id b v h =>
  simp only [V.has] at hq
  simp only [V.ren];exact .at_ _ b v ((a1z (g:=g) (p:=p) (hne hq)).1.trans h)
 | nsl z k xs v h =>
  simp only [V.has] at hq
  have:=(a1z (g:=g) (p:=p) (hne hq)).2.1
  simp only [V.ren];exact .nsl _ k xs v (by rw [this];exact h)
 | nsmap b z k kd ents clock es hr hS hg hn =>
  simp only [V.has] at hq
  have:=(a1z (g:=g) (p:=p) (hne hq)).2.1
  simp only [V.ren];exact .nsmap b _ k kd ents clock es hr hS hg fun i ent kv h1 h2=>by rw [this];exact hn i ent kv h1 h2
 | agg vs cs hl hr ih =>
  simp only [V.ren,a3v]
  refine .agg vs _ (by simpa using hl) fun i c hc=>?_
  rw [xS] at hc
  cases hx:cs[i]? with
  | none=>rw [hx] at hc;cases hc
  | some y=>rw [hx] at hc;cases hc;exact ih i y hx (V.hasL_mem (xB hx) (by simpa [V.has] using hq))
 | tup vs cs hl hr ih =>
  simp only [V.ren,a3v]
  refine .tup vs _ (by simpa using hl) fun i c hc=>?_
  rw [xS] at hc
  cases hx:cs[i]? with
  | none=>rw [hx] at hc;cases hc
  | some y=>rw [hx] at hc;cases hc;exact ih i y hx (V.hasL_mem (xB hx) (by simpa [V.has] using hq))
 | fn f vs cs hl hr ih =>
  simp only [V.ren,a3v]
  refine .fn f vs _ (by simpa using hl) fun i c hc=>?_
  rw [xS] at hc
  cases hx:cs[i]? with
  | none=>rw [hx] at hc;cases hc
  | some y=>rw [hx] at hc;cases hc;exact ih i y hx (V.hasL_mem (xB hx) (by simpa [V.has] using hq))
 | bnd f vs cs hl hr ih =>
  simp only [V.ren,a3v]
  refine .bnd f vs _ (by simpa using hl) fun i c hc=>?_
  rw [xS] at hc
  cases hx:cs[i]? with
  | none=>rw [hx] at hc;cases hc
  | some y=>rw [hx] at hc;cases hc;exact ih i y hx (V.hasL_mem (xB hx) (by simpa [V.has] using hq))
theorem OR.ren {p q n:Nat} {o:a0c} (h:OR g w n o) (hn:n≠q) (hq:o.has q=false):OR (g.dup p q) w (bif Nat.beq n p then q else n) (o.ren p q):=by
 obtain ⟨h1,h2,h3,h4⟩:=a1z (g:=g) (p:=p) hn
 cases o with
 | cells cs ty =>
  obtain ⟨hnil,cur,e,fz,k1,k2,k3,k4⟩:=h
  refine ⟨fun h=>hnil (h4.1 h),cur,e,fz,by rw [h1];exact k1,by rw [a3v];simpa using k2,k3,fun i c hc=>?_⟩
  rw [a3v,xS] at hc
  cases hx:cs[i]? with
  | none=>rw [hx] at hc;cases hc
  | some y=>rw [hx] at hc;cases hc;exact (k4 i y hx).ren (V.hasL_mem (xB hx) (by simpa [a0c.has] using hq))
 | arr k xs ty =>
  rcases h with ⟨hnil,hx⟩|⟨hnil,ha⟩
  ·exact .inl ⟨h4.2 hnil,hx⟩
  ·refine .inr ⟨fun h=>hnil (h4.1 h),?_⟩
   rw [h1,h2,h3];exact ha
 | map kd es =>
  obtain ⟨hnil,ents,clock,k1,k2⟩:=h
  exact ⟨fun h=>hnil (h4.1 h),ents,clock,by rw [h1];exact k1,k2⟩
 | mark =>
  obtain ⟨k1,k2⟩:=h
  exact ⟨h4.2 k1,fun b hb=>k2 b (by rw [←h2];exact hb)⟩
 | nmap z k kd es =>
  obtain ⟨hnil,ents,clock,k1,k2,k3,k4,k5,k6⟩:=h
  have hz:z≠q:=fun e=>by simp [a0c.has,e] at hq
  have:=(a1z (g:=g) (p:=p) hz).2.1
  exact ⟨fun h=>hnil (h4.1 h),ents,clock,by rw [h1];exact k1,k2,k3,k4,fun i ent kv a1 a2=>by rw [this];exact k5 i ent kv a1 a2,fun b hb=>k6 b (by rw [←this];exact hb)⟩
 | iter rem cur =>
  obtain ⟨hnil,k1⟩:=h
  exact ⟨fun h=>hnil (h4.1 h),by rw [h1];exact k1⟩
theorem Rel.ren {p q:Nat} (h:Rel P c g σ a w) (hpq:p≠q) (hcl:Clean c σ q) (hin:a0i q σ.heap=false):Rel P c (g.dup p q) ⟨c97 p q σ.env,c65 p q σ.heap⟩ a w:=by
 have hfind:∀n o,find n σ.heap=some o→n≠q:=fun n o hn e=>by
  have:=a2q.2 ⟨o,hn⟩
  rw [e,hin] at this;cases this
 have ren_p:(bif Nat.beq p p then q else p)=q:=by simp
 have ren_n:∀{n},n≠p→(bif Nat.beq n p then q else n)=n:=fun {n} hn=>by
  have:Nat.beq n p=false:=by
   cases hb:Nat.beq n p with
   | true=>exact absurd (zR hb) hn
   | false=>rfl
  simp [this]
 have key:∀n o,find n (c65 p q σ.heap)=some o→∃m o',find m σ.heap=some o'∧o=o'.ren p q∧n=(bif Nat.beq m p then q else m)∧m≠q:=fun n o hn=>by
  rcases b7m hpq hin n o hn with ⟨h1,o',h2,h3⟩|⟨h1,h2,o',h3,h4⟩
  ·exact ⟨p,o',h2,h3,by rw [ren_p];exact h1,hfind _ _ h2⟩
  ·exact ⟨n,o',h3,h4,(ren_n h2).symm,h1⟩
 refine ⟨h.size,h.dfr,fun s x hx=>?_,⟨fun n o hn=>?_,fun i j o o' hi hj hni hnj he=>?_,fun n o hn hnil hS=>?_,h.hp.lt,h.hp.tabs⟩,⟨h.fr.os,h.fr.tape,h.fr.output,h.fr.size,h.fr.old,fun n o hn hnil=>?_,h.fr.sup,h.fr.sub,fun n o hn=>?_⟩⟩
 ·simp only [b7n] at hx
  cases hy:find s σ.env with
  | none=>rw [hy] at hx;cases hx
  | some y =>
   rw [hy] at hx;cases hx
   obtain ⟨h1,h2⟩:=h.env s y hy
   exact ⟨h1,h2.ren (a2p hcl.2.1 hy)⟩
 ·obtain ⟨m,o',h1,rfl,rfl,h4⟩:=key n o hn
  exact (h.hp.obj m o' h1).ren h4 (a2o hcl.2.2 h1)
 ·obtain ⟨m,o1,h1,rfl,rfl,h4⟩:=key i o hi
  obtain ⟨m',o1',h1',rfl,rfl,h4'⟩:=key j o' hj
  obtain ⟨e1,_,_,e2⟩:=a1z (g:=g) (p:=p) h4
  obtain ⟨e1',_,_,e2'⟩:=a1z (g:=g) (p:=p) h4'
  rw [e1,e1'] at he
  have:=h.hp.inj m m' o1 o1' h1 h1' (fun h=>hni (e2.2 h)) (fun h=>hnj (e2'.2 h)) he
  rw [this]
 ·obtain ⟨m,o1,h1,rfl,rfl,h4⟩:=key n o hn
  obtain ⟨e1,_,_,e2⟩:=a1z (g:=g) (p:=p) h4
  rw [e1] at hS
  exact h.hp.sep m o1 h1 (fun h=>hnil (e2.2 h)) hS
 ·obtain ⟨m,o1,h1,rfl,rfl,h4⟩:=key n o hn
  obtain ⟨e1,_,_,e2⟩:=a1z (g:=g) (p:=p) h4
  rw [e1]
  exact h.fr.own m o1 h1 (fun h=>hnil (e2.2 h))
 ·refine (h.fr.par n o hn).trans (c7y fun e=>?_)
  rw [e,hcl.1] at hn;cases hn
theorem a2v (n:Nat) (xs:List V):∀cs:List V,V.sealL n xs cs=cs.map (V.shut n xs)
 | []=>rfl
 | x::r=>by simp [V.sealL,a2v n xs r]
theorem a2n {n k m:Nat}:∀{cs:List V},V.sealOKs n k m cs→∀c∈cs,c.sealOK n k m
 | [],_,_,h=>by cases h
 | x::r,h,c,hc=>by
  simp only [V.sealOKs] at h
  rcases w4.1 hc with rfl|hc
  ·exact h.1
  ·exact a2n h.2 c hc
theorem b4q (n s:Nat) (xs:List V):∀env:List (Nat×V),find s (b6n n xs env)=(find s env).map (V.shut n xs)
 | []=>rfl
 | (m,x)::r=>by
  simp only [b6n,find]
  cases Nat.beq s m with
  | true=>rfl
  | false=>exact b4q n s xs r
theorem b0d {n k m s:Nat} {x:V}:∀{env:List (Nat×V)},a5u n k m env→find s env=some x→x.sealOK n k m
 | (q,y)::r,h,hf=>by
  simp only [a5u] at h
  simp only [find] at hf
  cases hb:Nat.beq s q with
  | true=>rw [hb] at hf;cases hf;exact h.1
  | false=>rw [hb] at hf;exact b0d h.2 hf
theorem b0c {n k m s:Nat} {x:a0c}:∀{H:Heap},a5t n k m H→find s H=some x→x.sealOK n k m
 | (q,y)::r,h,hf=>by
  simp only [a5t] at h
  simp only [find] at hf
  cases hb:Nat.beq s q with
  | true=>rw [hb] at hf;cases hf;exact h.1
  | false=>rw [hb] at hf;exact b0c h.2 hf
theorem a2r {n s:Nat} {xs:List V} {o:a0c}:∀{H:Heap},find s (b5g n xs H)=some o→s≠n∧∃o',find s H=some o'∧o=o'.shut n xs
 | (m,x)::r,h=>by
  simp only [b5g] at h
  cases hb:Nat.beq n m with
  | true =>
   rw [hb] at h
   obtain ⟨h1,o',h2,h3⟩:=a2r (H:=r) h
   have e:=zR hb;subst e
   have hb':Nat.beq s n=false:=by
    cases hb:Nat.beq s n with
    | true=>exact absurd (zR hb) h1
    | false=>rfl
   exact ⟨h1,o',by simp only [find,hb',vO];exact h2,h3⟩
  | false =>
   rw [hb] at h
   simp only [vO,find] at h
   cases hs:Nat.beq s m with
   | true =>
    rw [hs] at h;cases h
    have e:=zR hs;subst e
    refine ⟨fun e=>?_,x,by simp [find],rfl⟩
    rw [e,vE] at hb;cases hb
   | false =>
    rw [hs] at h
    obtain ⟨h1,o',h2,h3⟩:=a2r (H:=r) h
    exact ⟨h1,o',by simp only [find,hs,vO];exact h2,h3⟩
def Gh.sealed (g:Gh) (n:Nat):Gh:={ g with S:=fun b=>g.S b∨(¬g.nil n∧b=g.ρ n) }
theorem a05 (g:Gh) (n i:Nat):g.agree (g.sealed n) i:=⟨rfl,rfl,rfl,vR⟩
theorem VR.shut {n k:Nat} {xs:List V} {ty:Option TypeId} {v:Value} {x:V} (ho:OR g w n (.arr k xs ty)) (h:VR g w v x) (hok:x.sealOK n k xs.length):VR (g.sealed n) w v (x.shut n xs):=by
 have hk:a1o g.S w w:=fun _ _=>rfl
 have hs:∀b,g.S b→(g.sealed n).S b:=fun _ h=>.inl h
 have up:∀{v:Value} {x:V},VR g w v x→VR (g.sealed n) w v x:=fun h=>h.mono hk hs fun id _=>a05 g n id
 induction h with
 | @rd v x h =>
  have:x.shut n xs=x:=by
   have flat:∀{y:V} {u:Value},Rd g.S w u y→y.shut n xs=y:=by
    intro y u hy
    induction hy with
    | agg vs cs hl hr ih =>
     simp only [V.shut,a2v,V.agg.injEq]
     refine xV fun i=>?_
     rw [xS]
     cases hc:cs[i]? with
     | none=>rfl
     | some c=>simp [ih i c hc]
    | _=>rfl
   exact flat h
  rw [this];exact .rd (h.mono hk hs)
 | any v=>exact .any v
 | ptr id off =>
  simp only [V.shut]
  cases Nat.beq n id with
  | true=>exact .any _
  | false=>exact up (.ptr id off)
 | eptr b o off cur e fz x hS hg hb hr=>exact up (.eptr b o off cur e fz x hS hg hb hr)
 | oslnil id k' lo h =>
  simp only [V.shut]
  cases hb:Nat.beq n id with
  | true =>
   have e:=zR hb;subst e
   simp only [vQ,List.take_zero];exact .rd .nilsl
  | false=>exact up (.oslnil id k' lo h)
 | osl id k' lo len o c h hoo hc hl hm =>
  simp only [V.shut]
  cases hb:Nat.beq n id with
  | false=>exact up (.osl id k' lo len o c h hoo hc hl hm)
  | true =>
   have e:=zR hb;subst e
   simp only [V.sealOK,hb,vQ] at hok ⊢
   cases hkb:Nat.beq k k' with
   | false=>rw [hkb] at hok;exact hok.elim
   | true =>
    have e:=zR hkb;subst e
    rw [hkb] at hok;simp only [vQ] at hok
    rcases ho with ⟨hn,_⟩|⟨hn,hkp,⟨cur,e,fz,h1,h2,h3,h4⟩,h5,h6,h7⟩
    ·exact absurd hn h
    ·have hlen:((xs.drop lo).take len).length=len:=by simp;omega
     refine .rd (.sl _ o len c k cur e fz _ (.inr ⟨h,rfl⟩) h1 hlen (vD hl hm) hl ?_ (fun x hx=>?_) fun i j x cx hi hj=>?_)
     ·rcases hoo with h0|h0
      ·exact .inl (by omega)
      ·refine .inr ?_
       rw [h0,h2,←vM]
       exact zZ k (by omega)
     ·obtain ⟨a1,a2,a3⟩:=h7 x (xA (List.mem_of_mem_take hx))
      exact ⟨a1,a2,a3⟩
     ·have hil:i<len:=by
       have:=(zG.1 hi).1
       omega
      rw [xL,if_pos hil,xM] at hi
      have hoo':o=(g.base n+lo)*k:=hoo.resolve_left (by omega)
      have:=(h4 (lo+i) j x cx hi hj).mono hk hs
      have e1:o+i*k+j=(g.base n+(lo+i))*k+j:=by
       rw [hoo',←wZ,vM (g.base n+lo) i k]
      rw [e1];exact this
 | optr id k' i off =>
  simp only [V.shut]
  cases Nat.beq n id with
  | true=>exact .any _
  | false=>exact up (.optr id k' i off)
 | omap id =>
  simp only [V.shut]
  cases Nat.beq n id with
  | true=>exact .any _
  | false=>exact up (.omap id)
 | bnil id =>
  simp only [V.shut]
  cases Nat.beq n id with
  | true=>exact .any _
  | false=>exact up (.bnil id)
 | bself id =>
  simp only [V.shut]
  cases Nat.beq n id with
  | true=>exact .any _
  | false=>exact up (.bself id)
 | at_ id b v h=>exact .at_ id b v h
 | nsl z k xs v h=>exact up (.nsl z k xs v h)
 | nsmap b z k kd ents clock es hr hS hg hn=>exact up (.nsmap b z k kd ents clock es hr hS hg hn)
 | agg vs cs hl hr ih =>
  simp only [V.shut,a2v]
  simp only [V.sealOK] at hok
  refine .agg vs _ (by simpa using hl) fun i c hc=>?_
  rw [xS] at hc
  cases hx:cs[i]? with
  | none=>rw [hx] at hc;cases hc
  | some y=>rw [hx] at hc;cases hc;exact ih i y hx (a2n hok y (xB hx))
 | tup vs cs hl hr ih =>
  simp only [V.shut,a2v]
  simp only [V.sealOK] at hok
  refine .tup vs _ (by simpa using hl) fun i c hc=>?_
  rw [xS] at hc
  cases hx:cs[i]? with
  | none=>rw [hx] at hc;cases hc
  | some y=>rw [hx] at hc;cases hc;exact ih i y hx (a2n hok y (xB hx))
 | fn f vs cs hl hr ih =>
  simp only [V.shut,a2v]
  simp only [V.sealOK] at hok
  refine .fn f vs _ (by simpa using hl) fun i c hc=>?_
  rw [xS] at hc
  cases hx:cs[i]? with
  | none=>rw [hx] at hc;cases hc
  | some y=>rw [hx] at hc;cases hc;exact ih i y hx (a2n hok y (xB hx))
 | bnd f vs cs hl hr ih =>
  simp only [V.shut,a2v]
  simp only [V.sealOK] at hok
  refine .bnd f vs _ (by simpa using hl) fun i c hc=>?_
  rw [xS] at hc
  cases hx:cs[i]? with
  | none=>rw [hx] at hc;cases hc
  | some y=>rw [hx] at hc;cases hc;exact ih i y hx (a2n hok y (xB hx))
theorem OR.shut {n k m:Nat} {xs:List V} {ty:Option TypeId} {o:a0c} (ho:OR g w n (.arr k xs ty)) (h:OR g w m o) (hok:o.sealOK n k xs.length):OR (g.sealed n) w m (o.shut n xs):=by
 have hk:a1o g.S w w:=fun _ _=>rfl
 have hs:∀b,g.S b→(g.sealed n).S b:=fun _ h=>.inl h
 cases o with
 | cells cs ty =>
  obtain ⟨hnil,cur,e,fz,k1,k2,k3,k4⟩:=h
  simp only [a0c.sealOK] at hok
  refine ⟨hnil,cur,e,fz,k1,by rw [a2v];simpa using k2,k3,fun i c hc=>?_⟩
  rw [a2v,xS] at hc
  cases hx:cs[i]? with
  | none=>rw [hx] at hc;cases hc
  | some y=>rw [hx] at hc;cases hc;exact (k4 i y hx).shut ho (a2n hok y (xB hx))
 | arr k' ys _=>exact h.mono hk hs (a05 g n m) (fun _=>rfl) (fun i _=>a05 g n i) (vL _)
 | map kd es=>exact h.mono hk hs (a05 g n m) (fun _=>rfl) (fun i _=>a05 g n i) (vL _)
 | iter rem cur=>exact h.mono hk hs (a05 g n m) (fun _=>rfl) (fun i _=>a05 g n i) (vL _)
 | mark=>exact h.mono hk hs (a05 g n m) (fun _=>rfl) (fun i _=>a05 g n i) (vL _)
 | nmap z k' kd es=>exact h.mono hk hs (a05 g n m) (fun _=>rfl) (fun i _=>a05 g n i) (vL _)
theorem Rel.shut {n k:Nat} {xs:List V} {ty:Option TypeId} (h:Rel P c g σ a w) (hf:find n σ.heap=some (.arr k xs ty)) (he:a5u n k xs.length σ.env) (hh:a5t n k xs.length σ.heap) :
  Rel P c (g.sealed n) ⟨b6n n xs σ.env,b5g n xs σ.heap⟩ a w:=by
 have ho:=h.hp.obj n _ hf
 refine ⟨h.size,h.dfr,fun s x hx=>?_,⟨fun m o hm=>?_,fun i j o o' hi hj hni hnj heq=>?_,fun m o hm hnil hS=>?_,fun b hb=>?_,fun w2 hw2=>h.hp.tabs w2 fun b hb=>hw2 b (.inl hb)⟩,⟨h.fr.os,h.fr.tape,h.fr.output,h.fr.size,h.fr.old,fun m o hm hnil=>?_,fun b hb=>.inl (h.fr.sup b hb),fun b hb=>?_,fun m o hm=>(h.fr.par m o hm).trans (a05 g n m)⟩⟩
 ·rw [b4q] at hx
  cases hy:find s σ.env with
  | none=>rw [hy] at hx;cases hx
  | some y =>
   rw [hy] at hx;cases hx
   obtain ⟨h1,h2⟩:=h.env s y hy
   exact ⟨h1,h2.shut ho (b0d he hy)⟩
 ·obtain ⟨_,o',h2,rfl⟩:=a2r hm
  exact OR.shut ho (h.hp.obj m o' h2) (b0c hh h2)
 ·obtain ⟨_,o1,h1,rfl⟩:=a2r hi
  obtain ⟨_,o2,h2,rfl⟩:=a2r hj
  exact h.hp.inj i j o1 o2 h1 h2 hni hnj heq
 ·obtain ⟨hne,o1,h1,rfl⟩:=a2r hm
  rcases hS with hS|⟨hS1,hS2⟩
  ·exact h.hp.sep m o1 h1 hnil hS
  ·exact hne (h.hp.inj m n o1 _ h1 hf hnil hS1 hS2)
 ·rcases hb with hb|⟨h1,rfl⟩
  ·exact h.hp.lt b hb
  ·exact ho.block h1
 ·obtain ⟨_,o1,h1,rfl⟩:=a2r hm
  exact h.fr.own m o1 h1 hnil
 ·rcases hb with hb|⟨h1,rfl⟩
  ·exact h.fr.sub b hb
  ·exact ⟨.inr (h.fr.own n _ hf h1).1,(h.fr.own n _ hf h1).2⟩
theorem a3s (n:Nat) (y:V):∀cs:List V,V.shmL n y cs=cs.map (V.shm n y)
 | []=>rfl
 | x::r=>by simp [V.shmL,a3s n y r]
theorem b7l (n s:Nat) (y:V):∀env:List (Nat×V),find s (c5j n y env)=(find s env).map (V.shm n y)
 | []=>rfl
 | (m,x)::r=>by
  simp only [c5j,find]
  cases Nat.beq s m with
  | true=>rfl
  | false=>exact b7l n s y r
theorem a3p {n s:Nat} {y:V} {o:a0c}:∀{H:Heap},find s (c4q n y H)=some o→s≠n∧∃o',find s H=some o'∧o=o'.shm n y
 | (m,x)::r,h=>by
  simp only [c4q] at h
  cases hb:Nat.beq n m with
  | true =>
   rw [hb] at h
   obtain ⟨h1,o',h2,h3⟩:=a3p (H:=r) h
   have e:=zR hb;subst e
   have hb':Nat.beq s n=false:=by
    cases hb:Nat.beq s n with
    | true=>exact absurd (zR hb) h1
    | false=>rfl
   exact ⟨h1,o',by simp only [find,hb',vO];exact h2,h3⟩
  | false =>
   rw [hb] at h
   simp only [vO,find] at h
   cases hs:Nat.beq s m with
   | true =>
    rw [hs] at h;cases h
    have e:=zR hs;subst e
    refine ⟨fun e=>?_,x,by simp [find],rfl⟩
    rw [e,vE] at hb;cases hb
   | false =>
    rw [hs] at h
    obtain ⟨h1,o',h2,h3⟩:=a3p (H:=r) h
    exact ⟨h1,o',by simp only [find,hs,vO];exact h2,h3⟩
theorem a6s {n:Nat} {kd:KD} {es:List (V×V)} (ho:OR g w n (.map kd es)):Rd (g.sealed n).S w (.map (some (g.ρ n))) (.smap kd es):=by
 have hk:a1o g.S w w:=fun _ _=>rfl
 have hs:∀b,g.S b→(g.sealed n).S b:=fun _ h=>.inl h
 obtain ⟨hn,ents,clock,h1,he,h3,h4⟩:=ho
 refine (.smap _ kd ents clock es (.inr ⟨hn,rfl⟩) h1 (by simpa using he.len) he.key h3 h4 (fun i ent kv hi hj=>?_) fun i ent kv hi hj=>?_)
 ·exact (he.rd i ent kv (by simpa using hi) hj).1.mono hk hs
 ·exact (he.rd i ent kv (by simpa using hi) hj).2.mono hk hs
theorem a7k {n z k:Nat} {kd:KD} {es:List (V×V)} (ho:OR g w n (.nmap z k kd es)):VR (g.sealed n) w (.map (some (g.ρ n))) (.nsmap z k kd es):=by
 have hk:a1o g.S w w:=fun _ _=>rfl
 have hs:∀b,g.S b→(g.sealed n).S b:=fun _ h=>.inl h
 obtain ⟨hn,ents,clock,h1,he,h3,h4,h5,_⟩:=ho
 have hrd:=a6s (g:=g) (w:=w) (n:=n) ⟨hn,ents,clock,h1,he,h3,h4⟩
 refine .nsmap _ z k kd ents clock es hrd (.inr ⟨hn,rfl⟩) h1 fun i ent kv hi hj=>?_
 obtain ⟨xs,e1,e2⟩:=h5 i ent kv hi hj
 exact ⟨xs,e1,e2.mono hk hs⟩
theorem VR.shm {n:Nat} {y:V} {v:Value} {x:V} (ho:VR (g.sealed n) w (.map (some (g.ρ n))) y) (h:VR g w v x):VR (g.sealed n) w v (V.shm n y x):=by
 have hk:a1o g.S w w:=fun _ _=>rfl
 have hs:∀b,g.S b→(g.sealed n).S b:=fun _ h=>.inl h
 have up:∀{v:Value} {x:V},VR g w v x→VR (g.sealed n) w v x:=fun h=>h.mono hk hs fun id _=>a05 g n id
 induction h with
 | @rd v x h =>
  have:V.shm n y x=x:=by
   have flat:∀{u:V} {v:Value},Rd g.S w v u→V.shm n y u=u:=by
    intro u v hy
    induction hy with
    | agg vs cs hl hr ih =>
     simp only [V.shm,a3s,V.agg.injEq]
     refine xV fun i=>?_
     rw [xS]
     cases hc:cs[i]? with
     | none=>rfl
     | some c=>simp [ih i c hc]
    | _=>rfl
   exact flat h
  rw [this];exact .rd (h.mono hk hs)
 | any v=>exact .any v
 | ptr id off=>exact up (.ptr id off)
 | eptr b o off cur e fz x hS hg hb hr=>exact up (.eptr b o off cur e fz x hS hg hb hr)
 | oslnil id k' lo h=>exact up (.oslnil id k' lo h)
 | osl id k' lo len o c h hoo hc hl hm=>exact up (.osl id k' lo len o c h hoo hc hl hm)
 | optr id k' i off=>exact up (.optr id k' i off)
 | bnil id=>exact up (.bnil id)
 | bself id=>exact up (.bself id)
 | omap id =>
  simp only [V.shm]
  cases hb:Nat.beq n id with
  | false=>exact up (.omap id)
  | true =>
   have e:=zR hb;subst e
   simpa using ho
 | at_ id b v h=>exact .at_ id b v h
 | nsl z k xs v h=>exact up (.nsl z k xs v h)
 | nsmap b z k kd ents clock es hr hS hg hn=>exact up (.nsmap b z k kd ents clock es hr hS hg hn)
 | agg vs cs hl hr ih =>
  simp only [V.shm,a3s]
  refine .agg vs _ (by simpa using hl) fun i c hc=>?_
  rw [xS] at hc
  cases hx:cs[i]? with
  | none=>rw [hx] at hc;cases hc
  | some u=>rw [hx] at hc;cases hc;exact ih i u hx
 | tup vs cs hl hr ih =>
  simp only [V.shm,a3s]
  refine .tup vs _ (by simpa using hl) fun i c hc=>?_
  rw [xS] at hc
  cases hx:cs[i]? with
  | none=>rw [hx] at hc;cases hc
  | some u=>rw [hx] at hc;cases hc;exact ih i u hx
 | fn f vs cs hl hr ih =>
  simp only [V.shm,a3s]
  refine .fn f vs _ (by simpa using hl) fun i c hc=>?_
  rw [xS] at hc
  cases hx:cs[i]? with
  | none=>rw [hx] at hc;cases hc
  | some u=>rw [hx] at hc;cases hc;exact ih i u hx
 | bnd f vs cs hl hr ih =>
  simp only [V.shm,a3s]
  refine .bnd f vs _ (by simpa using hl) fun i c hc=>?_
  rw [xS] at hc
  cases hx:cs[i]? with
  | none=>rw [hx] at hc;cases hc
  | some u=>rw [hx] at hc;cases hc;exact ih i u hx
theorem OR.shm {n m:Nat} {y:V} {o:a0c} (ho:VR (g.sealed n) w (.map (some (g.ρ n))) y) (h:OR g w m o):OR (g.sealed n) w m (o.shm n y):=by
 have hk:a1o g.S w w:=fun _ _=>rfl
 have hs:∀b,g.S b→(g.sealed n).S b:=fun _ h=>.inl h
 cases o with
 | cells cs ty =>
  obtain ⟨hnil,cur,e,fz,k1,k2,k3,k4⟩:=h
  refine ⟨hnil,cur,e,fz,k1,by rw [a3s];simpa using k2,k3,fun i c hc=>?_⟩
  rw [a3s,xS] at hc
  cases hx:cs[i]? with
  | none=>rw [hx] at hc;cases hc
  | some u=>rw [hx] at hc;cases hc;exact VR.shm ho (k4 i u hx)
 | arr k' ys _=>exact h.mono hk hs (a05 g n m) (fun _=>rfl) (fun i _=>a05 g n i) (vL _)
 | map kd es=>exact h.mono hk hs (a05 g n m) (fun _=>rfl) (fun i _=>a05 g n i) (vL _)
 | iter rem cur=>exact h.mono hk hs (a05 g n m) (fun _=>rfl) (fun i _=>a05 g n i) (vL _)
 | mark=>exact h.mono hk hs (a05 g n m) (fun _=>rfl) (fun i _=>a05 g n i) (vL _)
 | nmap z k' kd es=>exact h.mono hk hs (a05 g n m) (fun _=>rfl) (fun i _=>a05 g n i) (vL _)
theorem Rel.shm {n:Nat} {y:V} {on:a0c} (h:Rel P c g σ a w) (hf:find n σ.heap=some on) (ho:VR (g.sealed n) w (.map (some (g.ρ n))) y) :
  Rel P c (g.sealed n) ⟨c5j n y σ.env,c4q n y σ.heap⟩ a w:=by
 refine ⟨h.size,h.dfr,fun s x hx=>?_,⟨fun m o hm=>?_,fun i j o o' hi hj hni hnj heq=>?_,fun m o hm hnil hS=>?_,fun b hb=>?_,fun w2 hw2=>h.hp.tabs w2 fun b hb=>hw2 b (.inl hb)⟩,⟨h.fr.os,h.fr.tape,h.fr.output,h.fr.size,h.fr.old,fun m o hm hnil=>?_,fun b hb=>.inl (h.fr.sup b hb),fun b hb=>?_,h.fr.par⟩⟩
 ·rw [b7l] at hx
  cases hy:find s σ.env with
  | none=>rw [hy] at hx;cases hx
  | some u =>
   rw [hy] at hx;cases hx
   obtain ⟨h1,h2⟩:=h.env s u hy
   exact ⟨h1,VR.shm ho h2⟩
 ·obtain ⟨_,o',h2,rfl⟩:=a3p hm
  exact OR.shm ho (h.hp.obj m o' h2)
 ·obtain ⟨_,o1,h1,rfl⟩:=a3p hi
  obtain ⟨_,o2,h2,rfl⟩:=a3p hj
  exact h.hp.inj i j o1 o2 h1 h2 hni hnj heq
 ·obtain ⟨hne,o1,h1,rfl⟩:=a3p hm
  rcases hS with hS|⟨hS1,hS2⟩
  ·exact h.hp.sep m o1 h1 hnil hS
  ·exact hne (h.hp.inj m n o1 _ h1 hf hnil hS1 hS2)
 ·rcases hb with hb|⟨h1,rfl⟩
  ·exact h.hp.lt b hb
  ·exact (h.hp.obj n _ hf).block h1
 ·obtain ⟨_,o1,h1,rfl⟩:=a3p hm
  exact h.fr.own m o1 h1 hnil
 ·rcases hb with hb|⟨h1,rfl⟩
  ·exact h.fr.sub b hb
  ·exact ⟨.inr (h.fr.own n _ hf h1).1,(h.fr.own n _ hf h1).2⟩
theorem a4f:∀cs:List V,V.unnilL cs=cs.map V.unnil
 | []=>rfl
 | x::r=>by simp [V.unnilL,a4f r]
theorem VR.unnil {v:Value} {x:V} (h:VR g w v x):VR g w v x.unnil:=by
 have rd:∀{v:Value} {x:V},Rd g.S w v x→Rd g.S w v x.unnil:=by
  intro v x h
  induction h with
  | nils=>exact .nilsl
  | agg vs cs hl hr ih =>
   simp only [V.unnil,a4f]
   refine .agg vs _ (by simpa using hl) fun i c hc=>?_
   rw [xS] at hc
   cases hx:cs[i]? with
   | none=>rw [hx] at hc;cases hc
   | some y=>rw [hx] at hc;cases hc;exact ih i y hx
  | bool b=>exact .bool b
  | int k n h=>exact .int k n h
  | str s h=>exact .str s h
  | nilsl=>exact .nilsl
  | slz a cap=>exact .slz a cap
  | nilp=>exact .nilp
  | nilm=>exact .nilm
  | nilf=>exact .nilf
  | nili=>exact .nili
  | ifcn=>exact .ifcn
  | ifcs t p=>exact .ifcs t p
  | adr b off=>exact .adr b off
  | fnc n=>exact .fnc n
  | sl g' o len cap k cur e fz xs h1 h2 h3 h4 h5 h6 h7 h8 _=>exact .sl g' o len cap k cur e fz xs h1 h2 h3 h4 h5 h6 h7 h8
  | smap b kd ents clock es h1 h2 h3 h4 h5 h6 h7 h8 _ _=>exact .smap b kd ents clock es h1 h2 h3 h4 h5 h6 h7 h8
 induction h with
 | rd h=>exact .rd (rd h)
 | agg vs cs hl hr ih =>
  simp only [V.unnil,a4f]
  refine .agg vs _ (by simpa using hl) fun i c hc=>?_
  rw [xS] at hc
  cases hx:cs[i]? with
  | none=>rw [hx] at hc;cases hc
  | some y=>rw [hx] at hc;cases hc;exact ih i y hx
 | at_ id b v h=>exact .at_ id b v h
 | any v=>exact .any v
 | ptr id off=>exact .ptr id off
 | eptr b o off cur e fz x hS hg hb hr=>exact .eptr b o off cur e fz x hS hg hb hr
 | oslnil id k lo h=>exact .oslnil id k lo h
 | osl id k lo len o c h1 h2 h3 h4 h5=>exact .osl id k lo len o c h1 h2 h3 h4 h5
 | optr id k i off=>exact .optr id k i off
 | omap id=>exact .omap id
 | bnil id=>exact .bnil id
 | bself id=>exact .bself id
 | nsl z k xs v h=>exact .nsl z k xs v h
 | nsmap b z k kd ents clock es hr hS hg hn=>exact .nsmap b z k kd ents clock es hr hS hg hn
 | tup vs cs hl hr _=>exact .tup vs cs hl hr
 | fn f vs cs hl hr _=>exact .fn f vs cs hl hr
 | bnd f vs cs hl hr _=>exact .bnd f vs cs hl hr
theorem Rel.accC {id off id2 k:Nat} {ty:Option TypeId} {cs:List V} {t:Option TypeId} (h:Rel P c g σ a w) (hf:find id σ.heap=some (.cells cs t)) (hn:cs[off]?=some .nils) (hcl:Clean c σ id2) (hne:id≠id2) :
  Rel P c (g.setNil id2) ⟨σ.env,Go.Ab.put id (.cells (cs.set off (.osl id2 k 0 0)) t) (Go.Ab.put id2 (.arr k [] ty) σ.heap)⟩ a w:=by
 have hk:a1o g.S w w:=fun _ _=>rfl
 have hag:∀i,i≠id2→g.agree (g.setNil id2) i:=fun i hi=>Gh.setNil_agree hi
 have hO:=h.hp.obj id _ hf
 have hO2:OR (g.setNil id2) w id (.cells cs t):=hO.mono hk (fun _ h=>h) (hag id hne) (fun _=>rfl) (fun n hn'=>hag n fun e=>by
  rw [e,a2o hcl.2.2 hf] at hn';cases hn') (vL _)
 have hnil:¬(g.setNil id2).nil id:=hO2.1
 have hst:a07 g σ.heap w ⟨.any,[],[(id2,.arr k [] ty),(id,.cells (cs.set off (.osl id2 k 0 0)) t)]⟩ (g.setNil id2) w:=by
  refine ⟨rfl,rfl,rfl,vL _,fun _ _ _=>rfl,fun _ h=>h,fun b hb=>.inl hb,h.hp.lt,fun i hi=>hag i fun e=>hi (.arr k [] ty) (by simp [e]),?_,?_,?_,?_⟩
  ·intro i o ho
   simp at ho
   rcases ho with ⟨rfl,rfl⟩|⟨rfl,rfl⟩
   ·exact .inl ⟨.inl rfl,rfl⟩
   ·obtain ⟨h1,cur,e,fz,h2,h3,h4,h5⟩:=hO2
    refine ⟨h1,cur,e,fz,h2,by simpa using h3,h4,fun j x hj=>?_⟩
    rw [xR] at hj
    by_cases e1:off=j
    ·subst e1
     have hlt:off<cs.length:=(zG.1 hn).1
     simp [hlt] at hj;subst hj
     have:=h5 off _ hn
     rw [this.nils_inv];exact .oslnil id2 k 0 (.inl rfl)
    ·rw [if_neg e1] at hj;exact h5 j x hj
  ·intro i o ho hni
   simp at ho
   rcases ho with ⟨rfl,rfl⟩|⟨rfl,rfl⟩
   ·exact absurd (.inl rfl) hni
   ·obtain ⟨e1,_,_,e4⟩:=hag i hne
    exact .inr ⟨i,_,by simp [Eff.ids],hf,fun h=>hni (e4.2 h),e1.symm⟩
  ·intro i j o o' hi hj hni hnj _
   simp at hi hj
   rcases hi with ⟨rfl,rfl⟩|⟨rfl,rfl⟩
   ·exact absurd (.inl rfl) hni
   ·rcases hj with ⟨rfl,rfl⟩|⟨rfl,rfl⟩
    ·exact absurd (.inl rfl) hnj
    ·rfl
  ·intro i o ho hni hS
   simp at ho
   rcases ho with ⟨rfl,rfl⟩|⟨rfl,rfl⟩
   ·exact hni (.inl rfl)
   ·obtain ⟨e1,_,_,e4⟩:=hag i hne
    rw [e1] at hS
    exact h.hp.sep i _ hf (fun h=>hni (e4.2 h)) hS
 have hfr:a0v c.H0 g (g.setNil id2) σ ⟨.any,[],[(id2,.arr k [] ty),(id,.cells (cs.set off (.osl id2 k 0 0)) t)]⟩:=by
  intro i o ho
  simp at ho
  rcases ho with ⟨rfl,rfl⟩|⟨rfl,rfl⟩
  ·exact .inr ⟨hcl.1,fun s x hx=>a2p hcl.2.1 hx,fun n o' hn' _=>a2o hcl.2.2 hn'⟩
  ·exact .inl (hag i hne)
 exact h.step (d:=none) (v:=undef) (fun n hn=>by cases hn) hst hfr (.any _)
theorem a3j:∀{l:List Nat} {K:St→Prop} {g:Gh} {σ:St},c9t l σ K→Rel P c g σ a w→∃g' σ',K σ'∧Rel P c g' σ' a w
 | [],K,g,σ,h,hR=>⟨g,σ,h,hR⟩
 | id::r,K,g,σ,h,hR=>by
  simp only [c9t,f4n] at h
  split at h
  ·rename_i k xs ty hf
   exact a3j h.2.2 (hR.shut hf h.1 h.2.1)
  ·rename_i kd es hf
   exact a3j h (hR.shm hf (.rd (a6s (hR.hp.obj _ _ hf))))
  ·rename_i z k kd es hf
   exact a3j h (hR.shm hf (a7k (hR.hp.obj _ _ hf)))
  ·exact a3j h hR
  ·exact h.elim
theorem Rel.putv {s:Nat} {x y:V} (hR:Rel P c g σ a w) (hx:find s σ.env=some x) (hv:VR g w (a.tmps.getD s undef) y):Rel P c g ⟨Go.Ab.put s y σ.env,σ.heap⟩ a w:=by
 refine ⟨hR.size,hR.dfr,fun n z hn=>?_,hR.hp,hR.fr⟩
 rw [a0s] at hn
 split at hn
 ·rename_i e;cases hn;rw [e];exact ⟨(hR.env s _ hx).1,hv⟩
 ·exact hR.env n z hn
theorem VR.at_inv {v:Value} {id b:Nat} (h:VR g w v (.at_ id b)):g.ρ id=b:=by
 cases h with
 | rd h=>cases h
 | at_ _ _ _ h=>exact h
theorem VR.adr_inv {v:Value} {b off:Nat} (h:VR g w v (.adr b off)):v=.pointer (some ⟨b,off,none⟩):=by
 cases h with|rd h=>cases h;rfl
theorem Rel.nl {s:Nat} {x:V} (hR:Rel P c g σ a w) (hx:find s σ.env=some x):Rel P c g ⟨Go.Ab.put s x.unnil σ.env,σ.heap⟩ a w:=by
 refine ⟨hR.size,hR.dfr,fun t y hy=>?_,hR.hp,hR.fr⟩
 simp only [a0s] at hy
 obtain ⟨h1,h2⟩:=hR.env s x hx
 by_cases e:t=s
 ·subst e;simp at hy;subst hy;exact ⟨h1,h2.unnil⟩
 ·simp only [e,if_false] at hy;exact hR.env t y hy
def Gh.trim (g:Gh) (n lo:Nat):Gh:={ g with base:=fun i=>if i=n then g.base i+lo else g.base i,cap:=fun i=>if i=n then g.cap i - lo else g.cap i }
theorem c2n {g:Gh} {n lo i:Nat} (h:i≠n):g.agree (g.trim n lo) i:=by simp [Gh.agree,Gh.trim,h]
theorem a5q (n lo len:Nat):∀cs:List V,V.trL n lo len cs=cs.map (V.tr n lo len)
 | []=>rfl
 | x::r=>by simp [V.trL,a5q n lo len r]
theorem c25 (n lo len s:Nat):∀env:List (Nat×V),find s (trE n lo len env)=(find s env).map (V.tr n lo len)
 | []=>rfl
 | (m,x)::r=>by
  simp only [trE,find]
  cases Nat.beq s m with
  | true=>rfl
  | false=>exact c25 n lo len s r
theorem c22 (n lo len s:Nat):∀H:Heap,find s (trH n lo len H)=(find s H).map (a0c.tr n lo len)
 | []=>rfl
 | (m,x)::r=>by
  simp only [trH,find]
  cases Nat.beq s m with
  | true=>rfl
  | false=>exact c22 n lo len s r
theorem c98 {n m:Nat} (h:n≠m):Nat.beq n m=false:=by
 cases hb:Nat.beq n m with
 | true=>exact absurd (zR hb) h
 | false=>rfl
theorem Rd.tr {S:Nat→Prop} {v:Value} {x:V} {n lo len:Nat} (h:Rd S w v x):x.tr n lo len=x:=by
 induction h with
 | agg vs cs hl hr ih =>
  simp only [V.tr,a5q,V.agg.injEq]
  refine xV fun i=>?_
  rw [xS]
  cases hc:cs[i]? with
  | none=>rfl
  | some c=>simp [ih i c hc]
 | _=>rfl
theorem VR.tr {n lo len:Nat} {v:Value} {x:V} (h:VR g w v x):VR (g.trim n lo) w v (x.tr n lo len):=by
 induction h with
 | rd h=>rw [h.tr];exact .rd h
 | any v=>exact .any v
 | ptr id off =>
  simp only [V.tr]
  by_cases e:id=n
  ·subst e;simp only [vE,vQ];exact .any _
  ·simp only [c98 e,vO];exact .ptr (g:=g.trim n lo) id off
 | eptr b o off cur e fz x hS hg hb hr=>exact .eptr b o off cur e fz x hS hg hb hr
 | oslnil id k l h =>
  simp only [V.tr]
  by_cases e:id=n
  ·subst e
   simp only [vE,vQ]
   cases Nat.beq l lo&&Nat.beq 0 len with
   | true=>exact .oslnil (g:=g.trim id lo) id k 0 h
   | false=>exact .any _
  ·simp only [c98 e,vO];exact .oslnil (g:=g.trim n lo) id k l h
 | osl id k l m o cc h1 h2 h3 h4 h5 =>
  simp only [V.tr]
  by_cases e:id=n
  ·subst e
   simp only [vE,vQ]
   cases hb:Nat.beq l lo&&Nat.beq m len with
   | true =>
    simp only [wG] at hb
    have:=zR hb.1;subst this
    exact .osl (g:=g.trim id l) id k 0 m o cc h1 (by simpa [Gh.trim] using h2) (by simp [Gh.trim];omega) h4 h5
   | false=>exact .any _
  ·simp only [c98 e,vO]
   exact .osl (g:=g.trim n lo) id k l m o cc h1 (by simpa [Gh.trim,e] using h2) (by simpa [Gh.trim,e] using h3) h4 h5
 | optr id k i off =>
  simp only [V.tr]
  by_cases e:id=n
  ·subst e;simp only [vE,vQ];exact .any _
  ·simp only [c98 e,vO]
   have:=VR.optr (g:=g.trim n lo) (w:=w) id k i off
   simpa [Gh.trim,e] using this
 | omap id =>
  simp only [V.tr]
  by_cases e:id=n
  ·subst e;simp only [vE,vQ];exact .any _
  ·simp only [c98 e,vO];exact .omap (g:=g.trim n lo) id
 | bnil id =>
  simp only [V.tr]
  by_cases e:id=n
  ·subst e;simp only [vE,vQ];exact .any _
  ·simp only [c98 e,vO];exact .bnil id
 | bself id =>
  simp only [V.tr]
  by_cases e:id=n
  ·subst e;simp only [vE,vQ];exact .any _
  ·simp only [c98 e,vO];exact .bself (g:=g.trim n lo) id
 | at_ id b v h=>exact .at_ id b v h
 | nsl z k xs v h =>
  simp only [V.tr]
  by_cases e:z=n
  ·subst e;simp only [vE,vQ];exact .any _
  ·simp only [c98 e,vO]
   have:(g.trim n lo).base z=g.base z:=by simp [Gh.trim,e]
   exact .nsl z k xs v (by rw [this];exact h)
 | nsmap b z k kd ents clock es hr hS hg hn =>
  simp only [V.tr]
  by_cases e:z=n
  ·subst e;simp only [vE,vQ];exact .any _
  ·simp only [c98 e,vO]
   have:(g.trim n lo).base z=g.base z:=by simp [Gh.trim,e]
   exact .nsmap b z k kd ents clock es hr hS hg fun i ent kv a1 a2=>by rw [this];exact hn i ent kv a1 a2
 | agg vs cs hl hr ih =>
  simp only [V.tr,a5q]
  refine .agg vs _ (by simpa using hl) fun i c hc=>?_
  rw [xS] at hc
  cases hx:cs[i]? with
  | none=>rw [hx] at hc;cases hc
  | some y=>rw [hx] at hc;cases hc;exact ih i y hx
 | tup vs cs hl hr ih =>
  simp only [V.tr,a5q]
  refine .tup vs _ (by simpa using hl) fun i c hc=>?_
  rw [xS] at hc
  cases hx:cs[i]? with
  | none=>rw [hx] at hc;cases hc
  | some y=>rw [hx] at hc;cases hc;exact ih i y hx
 | fn f vs cs hl hr ih =>
  simp only [V.tr,a5q]
  refine .fn f vs _ (by simpa using hl) fun i c hc=>?_
  rw [xS] at hc
  cases hx:cs[i]? with
  | none=>rw [hx] at hc;cases hc
  | some y=>rw [hx] at hc;cases hc;exact ih i y hx
 | bnd f vs cs hl hr ih =>
  simp only [V.tr,a5q]
  refine .bnd f vs _ (by simpa using hl) fun i c hc=>?_
  rw [xS] at hc
  cases hx:cs[i]? with
  | none=>rw [hx] at hc;cases hc
  | some y=>rw [hx] at hc;cases hc;exact ih i y hx
theorem OR.tr {n lo len m:Nat} {o:a0c} (h:OR g w m o) (hm:m≠n):OR (g.trim n lo) w m (o.tr n lo len):=by
 cases o with
 | cells cs t =>
  obtain ⟨h1,cur,e,fz,h2,h3,h4,h5⟩:=h
  refine ⟨h1,cur,e,fz,h2,by rw [a5q];simpa using h3,h4,fun i x hx=>?_⟩
  rw [a5q,xS] at hx
  cases hy:cs[i]? with
  | none=>rw [hy] at hx;cases hx
  | some y=>rw [hy] at hx;cases hx;exact (h5 i y hy).tr
 | arr k xs t =>
  rcases h with ⟨h1,h2⟩|⟨h1,h2⟩
  ·exact .inl ⟨h1,h2⟩
  ·refine .inr ⟨h1,?_⟩
   have e1:(g.trim n lo).base m=g.base m:=by simp [Gh.trim,hm]
   have e2:(g.trim n lo).cap m=g.cap m:=by simp [Gh.trim,hm]
   rw [e1,e2];exact h2
 | map kd es=>exact h
 | iter rem cur=>exact h
 | mark =>
  have e1:(g.trim n lo).base m=g.base m:=by simp [Gh.trim,hm]
  exact ⟨h.1,fun b hb=>h.2 b (by rw [←e1];exact hb)⟩
 | nmap z k kd es =>
  obtain ⟨hnil,ents,clock,k1,k2,k3,k4,k5,k6⟩:=h
  by_cases e:z=n
  ·subst e;simp only [a0c.tr,vE,vQ];exact ⟨hnil,ents,clock,k1,k2,k3,k4⟩
  ·simp only [a0c.tr,c98 e,vO]
   have:(g.trim n lo).base z=g.base z:=by simp [Gh.trim,e]
   exact ⟨hnil,ents,clock,k1,k2,k3,k4,fun i ent kv a1 a2=>by rw [this];exact k5 i ent kv a1 a2,fun b hb=>k6 b (by rw [←this];exact hb)⟩
theorem OR.trim {n lo len k:Nat} {xs:List V} {t:Option TypeId} {v:Value} (h:OR g w n (.arr k xs t)) (hv:VR g w v (.osl n k lo len)):OR (g.trim n lo) w n (.arr k ((xs.drop lo).take len) t):=by
 rcases h with ⟨h1,h2⟩|⟨h1,h2⟩
 ·exact .inl ⟨h1,by simp [h2]⟩
 ·refine .inr ⟨h1,?_⟩
  rcases hv.osl_inv with ⟨h3,_⟩|⟨_,o,cc,_,_,hcap,hlc,_⟩
  ·exact absurd h3 h1
  obtain ⟨kpos,⟨cur,e,fz,r1,r2,r3,r4⟩,hlen,hbig,helem⟩:=h2
  have e1:(g.trim n lo).base n=g.base n+lo:=by simp [Gh.trim]
  have e2:(g.trim n lo).cap n=g.cap n - lo:=by simp [Gh.trim]
  rw [e1,e2]
  refine ⟨kpos,⟨cur,e,fz,r1,?_,r3,fun i j x c hx hc=>?_⟩,?_,by omega,fun x hx=>helem x (xA (List.mem_of_mem_take hx))⟩
  ·rw [r2];congr 1;omega
  ·have hi:i<len:=by
    have:=(zG.1 hx).1
    simp at this;omega
   rw [xL,if_pos hi,xM] at hx
   have:=r4 (lo+i) j x c hx hc
   rw [show g.base n+lo+i=g.base n+(lo+i) by omega];exact this
  ·simp;omega
theorem Rel.trim {n lo len k s:Nat} {xs:List V} {t:Option TypeId} (h:Rel P c g σ a w) (hs:find s σ.env=some (.osl n k lo len)) (hf:find n σ.heap=some (.arr k xs t)) (h0:find n c.H0=none) :
  Rel P c (g.trim n lo) ⟨trE n lo len σ.env,Go.Ab.put n (.arr k ((xs.drop lo).take len) t) (trH n lo len σ.heap)⟩ a w:=by
 have key:∀m o,find m (Go.Ab.put n (.arr k ((xs.drop lo).take len) t) (trH n lo len σ.heap))=some o→(∃o',find m σ.heap=some o')∧OR (g.trim n lo) w m o:=fun m o hm=>by
  rw [a0s] at hm
  by_cases e:m=n
  ·subst e
   simp at hm;subst hm
   exact ⟨⟨_,hf⟩,(h.hp.obj m _ hf).trim (h.env s _ hs).2⟩
  ·simp only [e,if_false,c22] at hm
   cases hy:find m σ.heap with
   | none=>rw [hy] at hm;cases hm
   | some y=>rw [hy] at hm;cases hm;exact ⟨⟨_,rfl⟩,(h.hp.obj m _ hy).tr e⟩
 refine ⟨h.size,h.dfr,fun s x hx=>?_,⟨fun m o hm=>(key m o hm).2,fun i j o o' hi hj hni hnj he=>?_,fun m o hm hnil hS=>?_,h.hp.lt,h.hp.tabs⟩,⟨h.fr.os,h.fr.tape,h.fr.output,h.fr.size,h.fr.old,fun m o hm hnil=>?_,h.fr.sup,h.fr.sub,fun m o hm=>(h.fr.par m o hm).trans (c2n fun e=>?_)⟩⟩
 ·rw [c25] at hx
  cases hy:find s σ.env with
  | none=>rw [hy] at hx;cases hx
  | some y=>rw [hy] at hx;cases hx;exact ⟨(h.env s y hy).1,(h.env s y hy).2.tr⟩
 ·obtain ⟨o1,h1⟩:=(key i o hi).1
  obtain ⟨o2,h2⟩:=(key j o' hj).1
  exact h.hp.inj i j o1 o2 h1 h2 hni hnj he
 ·obtain ⟨o1,h1⟩:=(key m o hm).1
  exact h.hp.sep m o1 h1 hnil hS
 ·obtain ⟨o1,h1⟩:=(key m o hm).1
  exact h.fr.own m o1 h1 hnil
 ·rw [e,h0] at hm;cases hm
theorem Rel.nlc {id:Nat} {cs:List V} {t:Option TypeId} (h:Rel P c g σ a w) (hf:find id σ.heap=some (.cells cs t)):Rel P c g ⟨σ.env,Go.Ab.put id (.cells (V.unnilL cs) t) σ.heap⟩ a w:=by
 have key:∀m o,find m (Go.Ab.put id (.cells (V.unnilL cs) t) σ.heap)=some o→(∃o',find m σ.heap=some o')∧OR g w m o:=fun m o hm=>by
  rw [a0s] at hm
  by_cases e:m=id
  ·subst e
   simp at hm;subst hm
   refine ⟨⟨_,hf⟩,?_⟩
   obtain ⟨h1,cur,e,fz,h2,h3,h4,h5⟩:=h.hp.obj m _ hf
   refine ⟨h1,cur,e,fz,h2,by rw [a4f];simpa using h3,h4,fun i x hx=>?_⟩
   rw [a4f,xS] at hx
   cases hy:cs[i]? with
   | none=>rw [hy] at hx;cases hx
   | some y=>rw [hy] at hx;cases hx;exact (h5 i y hy).unnil
  ·simp only [e,if_false] at hm
   exact ⟨⟨_,hm⟩,h.hp.obj m _ hm⟩
 refine ⟨h.size,h.dfr,h.env,⟨fun m o hm=>(key m o hm).2,fun i j o o' hi hj hni hnj he=>?_,fun m o hm hnil hS=>?_,h.hp.lt,h.hp.tabs⟩,⟨h.fr.os,h.fr.tape,h.fr.output,h.fr.size,h.fr.old,fun m o hm hnil=>?_,h.fr.sup,h.fr.sub,h.fr.par⟩⟩
 ·obtain ⟨o1,h1⟩:=(key i o hi).1
  obtain ⟨o2,h2⟩:=(key j o' hj).1
  exact h.hp.inj i j o1 o2 h1 h2 hni hnj he
 ·obtain ⟨o1,h1⟩:=(key m o hm).1
  exact h.hp.sep m o1 h1 hnil hS
 ·obtain ⟨o1,h1⟩:=(key m o hm).1
  exact h.fr.own m o1 h1 hnil
theorem c3t:∀{x:V},x.isNils=true→x=.nils
 | .nils,_=>rfl
theorem Rel.nm {id z k:Nat} {kd:KD} {es:List (V×V)} (h:Rel P c g σ a w) (hf:find id σ.heap=some (.map kd es)) (hz:find z σ.heap=some .mark) (hn:es.all (fun e=>e.2.isNils)=true) :
  Rel P c g ⟨σ.env,Go.Ab.put id (.nmap z k kd (es.map fun e=>(e.1,.sl []))) σ.heap⟩ a w:=by
 have key:∀m o,find m (Go.Ab.put id (.nmap z k kd (es.map fun e=>(e.1,.sl []))) σ.heap)=some o→(∃o',find m σ.heap=some o')∧OR g w m o:=fun m o hm=>by
  rw [a0s] at hm
  by_cases e:m=id
  ·subst e
   simp at hm;subst hm
   refine ⟨⟨_,hf⟩,?_⟩
   obtain ⟨h1,ents,clock,h2,h3,h4,h5⟩:=h.hp.obj m _ hf
   have val:∀(i:Nat) (ent:MapEntry) (kv:V×V),ents[i]?=some ent→es[i]?=some kv→ent.val=.slice none 0 0:=fun i ent kv hi hj=>by
    have h6:=(h3.rd i ent kv (by simpa using hi) hj).2
    rw [c3t (wF.1 hn kv (xB hj))] at h6
    exact (VR.rd (g:=g) h6).nils_inv
   have un:∀(i:Nat) (kv:V×V),(es.map fun e=>(e.1,V.sl []))[i]?=some kv→∃kv',es[i]?=some kv'∧kv=(kv'.1,V.sl []):=fun i kv hj=>by
    rw [xS] at hj
    cases hx:es[i]? with
    | none=>rw [hx] at hj;cases hj
    | some kv'=>rw [hx] at hj;cases hj;exact ⟨kv',rfl,rfl⟩
   refine ⟨h1,ents,clock,h2,⟨by simpa using h3.len,fun kv hm=>?_,fun i ent kv hi hj=>?_⟩,h4,h5,fun i ent kv hi hj=>?_,(h.hp.obj z _ hz).2⟩
   ·obtain ⟨e,he,rfl⟩:=vG.1 hm
    exact h3.key e he
   ·obtain ⟨kv',e1,rfl⟩:=un i kv hj
    refine ⟨(h3.rd i ent kv' hi e1).1,?_⟩
    rw [val i ent kv' (by simpa using hi) e1];exact .nilsl
   ·obtain ⟨kv',e1,rfl⟩:=un i kv hj
    exact ⟨[],rfl,.inl ⟨val i ent kv' hi e1,rfl⟩⟩
  ·simp only [e,if_false] at hm
   exact ⟨⟨_,hm⟩,h.hp.obj m _ hm⟩
 refine ⟨h.size,h.dfr,h.env,⟨fun m o hm=>(key m o hm).2,fun i j o o' hi hj hni hnj he=>?_,fun m o hm hnil hS=>?_,h.hp.lt,h.hp.tabs⟩,⟨h.fr.os,h.fr.tape,h.fr.output,h.fr.size,h.fr.old,fun m o hm hnil=>?_,h.fr.sup,h.fr.sub,h.fr.par⟩⟩
 ·obtain ⟨o1,h1⟩:=(key i o hi).1
  obtain ⟨o2,h2⟩:=(key j o' hj).1
  exact h.hp.inj i j o1 o2 h1 h2 hni hnj he
 ·obtain ⟨o1,h1⟩:=(key m o hm).1
  exact h.hp.sep m o1 h1 hnil hS
 ·obtain ⟨o1,h1⟩:=(key m o hm).1
  exact h.fr.own m o1 h1 hnil
theorem a9p {n:a3l} {K:St→Prop} (h:a0l c.H0 n σ K) (hR:Rel P c g σ a w):∃g' σ',K σ'∧Rel P c g' σ' a w:=by
 cases n with
 | gc keep=>exact ⟨g,_,h,hR.sub (fun s x hx=>b2y hx) fun _ _ h=>h⟩
 | adq s q =>
  simp only [a0l] at h
  split at h
  ·rename_i id off y hs hq
   exact ⟨g,_,h (g.ρ id),hR.putv hq (.at_ id _ _ rfl)⟩
  ·exact h.elim
 | toA s q =>
  simp only [a0l] at h
  split at h
  ·rename_i id off id' b hs hq
   cases hi:Nat.beq id id' with
   | false=>rw [hi] at h;exact h.elim
   | true =>
    rw [hi] at h
    have e:=zR hi;subst e
    have h1:=(hR.env s _ hs).2
    have h2:=(hR.env q _ hq).2
    refine ⟨g,_,h,hR.putv hs ?_⟩
    rw [h1.ptr_inv,←h2.at_inv];exact .rd (.adr _ _)
  ·exact h.elim
 | ofA s q =>
  simp only [a0l] at h
  split at h
  ·rename_i b off id b' hs hq
   obtain ⟨rfl,h⟩:=h
   have h1:=(hR.env s _ hs).2
   have h2:=(hR.env q _ hq).2
   refine ⟨g,_,h,hR.putv hs ?_⟩
   rw [h1.adr_inv,←h2.at_inv];exact .ptr _ _
  ·exact h.elim
 | nm id z k =>
  simp only [a0l] at h
  split at h
  ·rename_i kd es hf
   split at h
   ·rename_i hz
    cases hn:es.all fun e=>e.2.isNils with
    | false=>rw [hn] at h;exact h.elim
    | true=>rw [hn] at h;exact ⟨g,_,h,hR.nm hf hz hn⟩
   ·exact h.elim
  ·exact h.elim
 | fz s =>
  simp only [a0l] at h
  split at h
  ·rename_i x hx
   obtain ⟨g',σ',h1,h2⟩:=a3j h hR
   split at h1
   ·rename_i y hy
    exact ⟨g',_,h1,h2.nl hy⟩
   ·exact h1.elim
  ·exact ⟨g,σ,h,hR⟩
 | fzc s =>
  simp only [a0l] at h
  split at h
  ·rename_i id off hs
   split at h
   ·rename_i cs t hf
    obtain ⟨g',σ',h1,h2⟩:=a3j h hR
    split at h1
    ·rename_i ds t' hd
     exact ⟨g',_,h1,h2.nlc hd⟩
    ·exact h1.elim
   ·exact h.elim
  ·exact h.elim
 | trim s =>
  simp only [a0l] at h
  split at h
  ·rename_i id k lo n hs
   split at h
   ·rename_i k' xs t hf h0
    cases hk:Nat.beq k k' with
    | false=>rw [hk] at h;exact h.elim
    | true =>
     rw [hk] at h
     have:=zR hk;subst this
     exact ⟨_,_,h,hR.trim hs hf h0⟩
   ·exact h.elim
  ·exact ⟨g,σ,h,hR⟩
 | ownC id off id2 k ty =>
  simp only [a0l] at h
  split at h
  ·rename_i cs t hf
   split at h
   ·rename_i hn
    cases hc:a11 c.H0 σ [id2]&&!a0i id2 σ.heap&&!Nat.beq id id2 with
    | false=>rw [hc] at h;exact h.elim
    | true =>
     rw [hc] at h
     simp only [wG,xX] at hc
     refine ⟨_,_,h,hR.accC hf hn (a1e hc.1.1 id2 xJ) fun e=>?_⟩
     have hj:=hc.2
     rw [e,vE] at hj;cases hj
   ·rename_i j k' lo n hn
    cases hj:Nat.beq j id2 with
    | true=>rw [hj] at h;exact ⟨g,σ,h,hR⟩
    | false =>
     rw [hj] at h
     simp only [vO] at h
     cases hc:a11 c.H0 σ [id2]&&!a0i id2 σ.heap&&a0i j σ.heap with
     | false=>rw [hc] at h;exact h.elim
     | true =>
      rw [hc] at h
      simp only [wG,xX] at hc
      refine ⟨_,_,h,hR.ren (fun e=>?_) (a1e hc.1.1 id2 xJ) hc.1.2⟩
      rw [e,vE] at hj;cases hj
   ·exact h.elim
  ·exact h.elim
 | fact s =>
  refine ⟨g,σ,h ?_,hR⟩
  rw [a1m]
  cases hf:find s σ.env with
  | none=>simp [V.fact]
  | some x=>exact (hR.env s x hf).2.fact
 | ren j id =>
  simp only [a0l] at h
  cases hc:a11 c.H0 σ [id]&&!a0i id σ.heap&&!Nat.beq j id with
  | false=>rw [hc] at h;exact h.elim
  | true =>
   rw [hc] at h
   simp only [wG,xX] at hc
   refine ⟨_,_,h,hR.ren (fun e=>?_) (a1e hc.1.1 id xJ) hc.1.2⟩
   have hj:=hc.2
   rw [e,vE] at hj;cases hj
 | renq j id =>
  simp only [a0l] at h
  cases hj:a0i j σ.heap with
  | false=>rw [hj] at h;exact ⟨_,_,h,hR⟩
  | true =>
   rw [hj] at h
   simp only [vQ] at h
   cases hc:a11 c.H0 σ [id]&&!a0i id σ.heap&&!Nat.beq j id with
   | false=>rw [hc] at h;exact h.elim
   | true =>
    rw [hc] at h
    simp only [wG,xX] at hc
    refine ⟨_,_,h,hR.ren (fun e=>?_) (a1e hc.1.1 id xJ) hc.1.2⟩
    have hj:=hc.2
    rw [e,vE] at hj;cases hj
 | shq id =>
  simp only [a0l] at h
  split at h
  ·rename_i k xs hf
   exact ⟨_,_,h.2.2,hR.shut hf h.1 h.2.1⟩
  ·rename_i kd es hf
   exact ⟨_,_,h,hR.shm hf (.rd (a6s (hR.hp.obj _ _ hf)))⟩
  ·rename_i z k kd es hf
   exact ⟨_,_,h,hR.shm hf (a7k (hR.hp.obj _ _ hf))⟩
  ·exact ⟨_,_,h,hR⟩
  ·exact h.elim
 | shut id =>
  simp only [a0l] at h
  split at h
  ·rename_i k xs hf
   exact ⟨_,_,h.2.2,hR.shut hf h.1 h.2.1⟩
  ·rename_i kd es hf
   exact ⟨_,_,h,hR.shm hf (.rd (a6s (hR.hp.obj _ _ hf)))⟩
  ·rename_i z k kd es hf
   exact ⟨_,_,h,hR.shm hf (a7k (hR.hp.obj _ _ hf))⟩
  ·exact h.elim
 | accA s off id k =>
  simp only [a0l] at h
  split at h
  ·rename_i cs hf
   split at h
   ·rename_i hn
    cases hc:a11 c.H0 σ [id]&&!a0i id σ.heap with
    | false=>rw [hc] at h;exact h.elim
    | true =>
     rw [hc] at h
     simp only [vQ] at h
     simp only [wG,xX] at hc
     have hcl:=a1e hc.1 id xJ
     obtain ⟨hlt,hv⟩:=hR.env s _ hf
     have hst:=a07.newNil (g:=g) (w:=w) (V.agg (cs.set off (.osl id k 0 0))) id k [] none hR.hp
     have hfr:a0v c.H0 g (g.setNil id) σ ⟨.agg (cs.set off (.osl id k 0 0)),[],[(id,.arr k [])]⟩:=a0v.of_clean hcl
     have hv':VR (g.setNil id) w (a.tmps.getD s undef) (.agg (cs.set off (.osl id k 0 0))):=by
      have hne:=a2p hcl.2.1 hf
      have h2:VR (g.setNil id) w (a.tmps.getD s undef) (.agg cs):=VR.mono (g:=g) (g':=g.setNil id) (w:=w) (w':=w) (fun _ _=>rfl) (fun _ h=>h) hv fun i (hi:V.has i (.agg cs)=true)=>Gh.setNil_agree (g:=g) (n:=id) fun e=>by rw [e] at hi;rw [hne] at hi;cases hi
      obtain ⟨vs,e1,e2,e3⟩:=h2.agg_inv
      rw [e1]
      refine .agg vs _ (by rw [List.length_set];exact e2) fun j x hj=>?_
      rw [xR] at hj
      by_cases e4:off=j
      ·subst e4
       have hlo:off<cs.length:=(zG.1 hn).1
       simp [hlo] at hj;subst hj
       rw [(e3 off _ hn).nils_inv];exact .oslnil id k 0 (.inl rfl)
      ·rw [if_neg e4] at hj;exact e3 j x hj
     have:=hR.step (d:=some s) (fun n hn=>by cases hn;exact hlt) hst hfr hv'
     refine ⟨g.setNil id,_,h,?_⟩
     have e:a.put (some s) (a.tmps.getD s undef)=a:=by
      have hlt':s<a.tmps.size:=by rw [hR.size];exact hlt
      have e1:a.tmps.setIfInBounds s (a.tmps.getD s undef)=a.tmps:=by
       refine Array.ext (by simp) fun i h1 h2=>?_
       rw [Array.getElem_setIfInBounds]
       ·by_cases e:s=i
        ·subst e;simp [hlt']
        ·simp [e]
       ·exact h2
      simp only [Act.put,e1]
     rw [e] at this
     exact this
   ·rename_i j k' lo n hs
    cases hj:Nat.beq j id with
    | true=>rw [hj] at h;exact ⟨g,σ,h,hR⟩
    | false =>
     rw [hj] at h
     simp only [vO] at h
     cases hc:a11 c.H0 σ [id]&&!a0i id σ.heap&&a0i j σ.heap with
     | false=>rw [hc] at h;exact h.elim
     | true =>
      rw [hc] at h
      simp only [wG,xX] at hc
      refine ⟨_,_,h,hR.ren (fun e=>?_) (a1e hc.1.1 id xJ) hc.1.2⟩
      rw [e,vE] at hj;cases hj
   ·exact h.elim
  ·exact h.elim
 | acc s id k =>
  simp only [a0l] at h
  split at h
  ·rename_i hs
   cases hc:a11 c.H0 σ [id]&&!a0i id σ.heap with
   | false=>rw [hc] at h;exact h.elim
   | true =>
    rw [hc] at h
    simp only [vQ] at h
    simp only [wG,xX] at hc
    have hcl:=a1e hc.1 id xJ
    have hf:find s σ.env=some .nils:=by
     rw [a1m] at hs
     cases hf:find s σ.env with
     | none=>rw [hf] at hs;cases hs
     | some x=>rw [hf] at hs;simp at hs;rw [hs]
    obtain ⟨hlt,hv⟩:=hR.env s _ hf
    have hst:=a07.newNil (g:=g) (w:=w) (V.osl id k 0 0) id k [] none hR.hp
    have hfr:a0v c.H0 g (g.setNil id) σ ⟨.osl id k 0 0,[],[(id,.arr k [])]⟩:=a0v.of_clean hcl
    have hv':VR (g.setNil id) w (a.tmps.getD s undef) (.osl id k 0 0):=by
     rw [hv.nils_inv];exact .oslnil id k 0 (.inl rfl)
    have:=hR.step (d:=some s) (fun n hn=>by cases hn;exact hlt) hst hfr hv'
    refine ⟨g.setNil id,_,h,?_⟩
    have e:a.put (some s) (a.tmps.getD s undef)=a:=by
     have hlt':s<a.tmps.size:=by rw [hR.size];exact hlt
     have e1:a.tmps.setIfInBounds s (a.tmps.getD s undef)=a.tmps:=by
      refine Array.ext (by simp) fun i h1 h2=>?_
      rw [Array.getElem_setIfInBounds]
      ·by_cases e:s=i
       ·subst e;simp [hlt']
       ·simp [e]
      ·exact h2
     simp only [Act.put,e1]
    rw [e] at this
    exact this
  ·rename_i j k' lo n hs
   cases hj:Nat.beq j id with
   | true=>rw [hj] at h;exact ⟨g,σ,h,hR⟩
   | false =>
    rw [hj] at h
    simp only [vO] at h
    cases hc:a11 c.H0 σ [id]&&!a0i id σ.heap&&a0i j σ.heap with
    | false=>rw [hc] at h;exact h.elim
    | true =>
     rw [hc] at h
     simp only [wG,xX] at hc
     refine ⟨_,_,h,hR.ren (fun e=>?_) (a1e hc.1.1 id xJ) hc.1.2⟩
     rw [e,vE] at hj;cases hj
  ·exact h.elim
end
def e0o:List (Nat×V)→List (Nat×V)→Prop
 | [],_=>True
 | (n,x)::r,env=>get n env=x∧e0o r env
def c2p:Heap→Heap→Prop
 | [],_=>True
 | (n,o)::r,H=>find n H=some o∧c2p r H
def V.nav:V→Bool
 | .any=>false
 | _=>true
def c3m:List (Nat×V)→Bool
 | []=>true
 | (_,x)::r=>x.nav&&c3m r
def distinct {α:Type}:List (Nat×α)→Bool
 | []=>true
 | (n,_)::r=>(match find n r with|none=>true|some _=>false)&&distinct r
def St.good (τ:St):Bool:=c3m τ.env&&distinct τ.env&&distinct τ.heap
def a0j (τ σ:St):Prop:=τ.good=true∧e0o τ.env σ.env∧c2p τ.heap σ.heap
def factsSt (σ:St):Prop:=c29 σ.env∧a90 σ.heap
def a0g (H0:Heap):List a3l→St→(St→Prop)→Prop
 | [],σ,K=>K σ
 | n::r,σ,K=>a0l H0 n σ fun σ'=>a0g H0 r σ' K
theorem a81 {K K':St→Prop} (hk:∀σ,K σ→K' σ):∀{l:List Nat} {σ:St},c9t l σ K→c9t l σ K'
 | [],_,h=>hk _ h
 | id::r,σ,h=>by
  simp only [c9t,f4n] at h ⊢
  split at h<;>first|exact ⟨h.1,h.2.1,a81 hk h.2.2⟩|exact a81 hk h|exact h.elim
theorem b2v {b:Bool} {p q:Prop} (h:p→q) (hp:bif b then p else False):bif b then q else False:=by
 cases b with
 | true=>exact h hp
 | false=>exact hp
theorem b5e {H0:Heap} {n:a3l} {σ:St} {K K':St→Prop} (hk:∀σ,K σ→K' σ) (h:a0l H0 n σ K):a0l H0 n σ K':=by
 cases n<;>simp only [a0l] at h ⊢
 case gc=>exact hk _ h
 case fact=>exact fun hf=>hk _ (h hf)
 case adq=>split at h<;>first|exact fun b=>hk _ (h b)|exact h.elim
 case toA=>split at h<;>first|exact b2v (hk _) h|exact h.elim
 case ofA=>split at h<;>first|exact ⟨h.1,hk _ h.2⟩|exact h.elim
 case nm =>
  split at h
  ·split at h
   ·exact b2v (hk _) h
   ·exact h.elim
  ·exact h.elim
 case ren=>exact b2v (hk _) h
 case renq j id =>
  cases hb:a0i j σ.heap with
  | true=>rw [hb] at h;exact b2v (hk _) h
  | false=>rw [hb] at h;exact hk _ h
 case accA s off id k =>
  split at h
  ·split at h
   ·exact b2v (hk _) h
   ·rename_i j _ _ _ _
    cases hb:Nat.beq j id with
    | true=>rw [hb] at h;exact hk _ h
    | false=>rw [hb] at h;exact b2v (hk _) h
   ·exact h.elim
  ·exact h.elim
 case acc s id k =>
  split at h
  ·exact b2v (hk _) h
  ·rename_i j _ _ _ _
   cases hb:Nat.beq j id with
   | true=>rw [hb] at h;exact hk _ h
   | false=>rw [hb] at h;exact b2v (hk _) h
  ·exact h.elim
 case shut=>split at h<;>first|exact ⟨h.1,h.2.1,hk _ h.2.2⟩|exact hk _ h|exact h.elim
 case shq=>split at h<;>first|exact ⟨h.1,h.2.1,hk _ h.2.2⟩|exact hk _ h|exact h.elim
 case ownC id off id2 k ty =>
  split at h
  ·split at h
   ·exact b2v (hk _) h
   ·rename_i j _ _ _ _
    cases hb:Nat.beq j id2 with
    | true=>rw [hb] at h;exact hk _ h
    | false=>rw [hb] at h;exact b2v (hk _) h
   ·exact h.elim
  ·exact h.elim
 case fz =>
  split at h
  ·refine a81 (fun σ' h'=>?_) h
   split at h'<;>first|exact hk _ h'|exact h'.elim
  ·exact hk _ h
 case fzc =>
  split at h
  ·split at h
   ·refine a81 (fun σ' h'=>?_) h
    split at h'<;>first|exact hk _ h'|exact h'.elim
   ·exact h.elim
  ·exact h.elim
 case trim =>
  split at h
  ·split at h
   ·exact b2v (hk _) h
   ·exact h.elim
  ·exact hk _ h
theorem a1c {H0:Heap} {K K':St→Prop} (hk:∀σ,K σ→K' σ):∀{ns:List a3l} {σ:St},a0g H0 ns σ K→a0g H0 ns σ K'
 | [],_,h=>hk _ h
 | n::r,σ,h=>b5e (n:=n) (fun σ' h'=>a1c hk h') h
inductive It where
 | op (m:MOp)
 | nt (n:a3l)
 | grp (ms:List MOp)
def b0m:List It→List MOp
 | []=>[]
 | .op m::r=>m::b0m r
 | .nt _::r=>b0m r
 | .grp ms::r=>ms++b0m r
def b8m (P:Program) (H0:Heap):List It→St→(St→Prop)→Prop
 | [],σ,K=>K σ
 | .op m::r,σ,K=>b49 P H0 m σ fun σ'=>b8m P H0 r σ' K
 | .nt n::r,σ,K=>a0l H0 n σ fun σ'=>b8m P H0 r σ' K
 | .grp ms::r,σ,K=>Lk (∃(α:Type) (I:α→St) (p:α→Prop),runN P H0 ms σ (fun σ'=>Lk (∃y,p y∧a0j (I y) σ'))∧∀y,p y→factsSt (I y)→b8m P H0 r (I y) K)
section
variable {P:Program} {c:Ctx} {g:Gh} {σ:St} {a:Act} {w:World}
theorem b6k {s:Nat} {x:V}:∀{τ env:List (Nat×V)},c3m τ=true→e0o τ env→find s τ=some x→find s env=some x
 | (n,y)::r,env,hn,h,hf=>by
  simp only [c3m,wG] at hn
  simp only [e0o] at h
  simp only [find] at hf
  cases hb:Nat.beq s n with
  | true =>
   rw [hb] at hf;cases hf
   have e:=zR hb;subst e
   have h1:=h.1
   rw [a1m] at h1
   cases hg:find s env with
   | none=>rw [hg] at h1;simp at h1;subst h1;simp [V.nav] at hn
   | some z=>rw [hg] at h1;simp at h1;rw [h1]
  | false=>rw [hb] at hf;exact b6k hn.2 h.2 hf
theorem a6l {s:Nat} {x:a0c}:∀{τ env:Heap},c2p τ env→find s τ=some x→find s env=some x
 | (n,y)::r,env,h,hf=>by
  simp only [c2p] at h
  simp only [find] at hf
  cases hb:Nat.beq s n with
  | true =>
   rw [hb] at hf;cases hf
   have e:=zR hb;subst e
   exact h.1
  | false=>rw [hb] at hf;exact a6l h.2 hf
theorem Rel.subSt {g:Gh} {σ τ:St} {a:Act} {w:World} (h:Rel P c g σ a w) (hs:a0j τ σ):Rel P c g τ a w:=by
 obtain ⟨h1,h2,h3⟩:=hs
 simp only [St.good,wG] at h1
 exact h.sub (fun _ _ hx=>b6k h1.1.1 h2 hx) fun _ _ hx=>a6l h3 hx
theorem a5e {α:Type} {n:Nat} {x:α}:∀{l:List (Nat×α)},distinct l=true→(n,x)∈l→find n l=some x
 | (m,y)::r,h,hm=>by
  simp only [distinct,wG] at h
  rcases w4.1 hm with e|hm
  ·cases e;simp [find]
  ·have ih:=a5e h.2 hm
   have hb:Nat.beq n m=false:=by
    cases hb:Nat.beq n m with
    | true =>
     have e:=zR hb;subst e
     rw [ih] at h;simp at h
    | false=>rfl
   simp only [find,hb,vO];exact ih
theorem b7r:∀{env:List (Nat×V)},(∀s x,(s,x)∈env→x.fact)→c29 env
 | [],_=>trivial
 | (n,x)::r,h=>⟨h n x xJ,b7r fun s y hy=>h s y (xD _ hy)⟩
theorem b7q:∀{H:Heap},(∀s x,(s,x)∈H→x.fact)→a90 H
 | [],_=>trivial
 | (n,x)::r,h=>⟨h n x xJ,b7q fun s y hy=>h s y (xD _ hy)⟩
theorem Rel.factsSt {g:Gh} {σ:St} {a:Act} {w:World} (h:Rel P c g σ a w) (hg:σ.good=true):factsSt σ:=by
 simp only [St.good,wG] at hg
 exact ⟨b7r fun s x hx=>(h.env s x (a5e hg.1.2 hx)).2.fact,b7q fun s x hx=>(h.hp.obj s x (a5e hg.2 hx)).fact⟩
theorem a6q:∀{ns:List a3l} {K:St→Prop} {g:Gh} {σ:St},a0g c.H0 ns σ K→Rel P c g σ a w→∃g' σ',K σ'∧Rel P c g' σ' a w
 | [],K,g,σ,h,hR=>⟨g,σ,h,hR⟩
 | n::r,K,g,σ,h,hR=>by
  obtain ⟨g',σ',h',hR'⟩:=a9p (n:=n) (K:=fun σ'=>a0g c.H0 r σ' K) h hR
  exact a6q h' hR'
theorem b0g {ops:Array Oper} {Q:Exit→Act→World→Prop} {K:St→Prop} {m:MOp} {r:List MOp} {i:Nat} {g:Gh} {σ:St} {a:Act} {w:World} (hok:a18 P c.nt ops (m::r) (ops.toList.drop i)=true) (hR:Rel P c g σ a w) (h:b49 P c.H0 m σ K)
  (ih:∀g σ a w,a18 P c.nt ops r (ops.toList.drop (i+1))=true→K σ→Rel P c g σ a w→wpOps P ops Q (List.range' (i+1) r.length) a w):wpOps P ops Q (List.range' i (m::r).length) a w:=by
 rw [wC,List.range'_succ,wpOps_cons]
 cases hd:ops.toList.drop i with
 | nil=>rw [hd] at hok;simp [a18] at hok
 | cons o s =>
  rw [hd] at hok
  simp only [a18,wG] at hok
  obtain ⟨hm,hr⟩:=hok
  have hi:ops[i]?=some o:=by
   have:(ops.toList.drop i)[0]?=some o:=by rw [hd];rfl
   rw [xM,vF,zW] at this
   exact this
  have hs:ops.toList.drop (i+1)=s:=by
   have:=congrArg List.tail hd
   simpa using this
  rw [←hs] at hr
  have ih:=fun g σ a w=>ih g σ a w hr
  have hm':=hm
  simp only [MOp.ok,wG] at hm'
  obtain ⟨⟨_,h2⟩,h3⟩:=hm'
  obtain ⟨hdd,hlt⟩:=a92 h2
  simp only [wpOp,hi]
  simp only [b49] at h
  cases hg:m.guard with
  | none =>
   rw [hg] at h h3
   simp only [a9v h3,if_true]
   exact .inl (a3u hm hR h fun eff he g' a' w' hR'=>ih g' _ a' w' he hR')
  | some p =>
   obtain ⟨t,want⟩:=p
   rw [hg] at h h3
   simp only at h
   split at h
   case h_3=>exact h.elim
   case h_2 hb =>
    rw [b2s h3 hR hb]
    simp only [xN,if_false]
    exact ih g _ _ w h (by rw [←hdd];exact hR.undef' hlt)
   rename_i b hb
   obtain ⟨hx,hy⟩:=h
   rw [a6b h3 hR hb]
   have hf:=a8t hb
   by_cases hbw:b=want
   ·subst hbw
    have hw:c9c b b=true:=by cases b<;>rfl
    simp only [hw,if_true]
    have hx:=hx rfl
    rw [a3w hf] at hx
    exact .inl (a3u hm hR hx fun eff he g' a' w' hR'=>ih g' _ a' w' he hR')
   ·have hbn:b=(!want):=by cases b<;>cases want<;>first|rfl|exact absurd rfl hbw
    have hw:c9c b want=false:=by rw [hbn];cases want<;>rfl
    simp only [hw,xN,if_false]
    have hy:=hy hbn
    rw [←hbn,a3w hf] at hy
    exact ih g _ _ w hy (by rw [←hdd];exact hR.undef' hlt)
theorem b1v {ops:Array Oper} {Q:Exit→Act→World→Prop} {K:St→Prop} {rest:List MOp} :
  ∀(ms:List MOp) (i:Nat) (g:Gh) (σ:St) (a:Act) (w:World),a18 P c.nt ops (ms++rest) (ops.toList.drop i)=true→Rel P c g σ a w→runN P c.H0 ms σ K →
  (∀σ' g' a' w',K σ'→a18 P c.nt ops rest (ops.toList.drop (i+ms.length))=true→Rel P c g' σ' a' w'→wpOps P ops Q (List.range' (i+ms.length) rest.length) a' w')→wpOps P ops Q (List.range' i (ms++rest).length) a w
 | [],i,g,σ,a,w,hok,hR,h,hK=>hK σ g a w h hok hR
 | m::r,i,g,σ,a,w,hok,hR,h,hK=>by
  refine b0g (K:=fun σ'=>runN P c.H0 r σ' K) hok hR h fun g σ a w hok' h' hR'=>?_
  refine b1v r (i+1) g σ a w hok' hR' h' fun σ' g' a' w' k1 k2 k3=>?_
  have e:i+(m::r).length=i+1+r.length:=by simp;omega
  have:=hK σ' g' a' w' k1 (by rw [e];exact k2) k3
  rwa [e] at this
theorem a6n {ops:Array Oper} {Q:Exit→Act→World→Prop} {K:St→Prop} (hK:∀σ' g' a' w',K σ'→Rel P c g' σ' a' w'→Q .normal a' w') :
  ∀(ms:List It) (i:Nat) (g:Gh) (σ:St) (a:Act) (w:World),a18 P c.nt ops (b0m ms) (ops.toList.drop i)=true→Rel P c g σ a w→b8m P c.H0 ms σ K→wpOps P ops Q (List.range' i (b0m ms).length) a w
 | [],i,g,σ,a,w,_,hR,h=>hK σ g a w h hR
 | .nt n::r,i,g,σ,a,w,hok,hR,h=>by
  obtain ⟨g',σ',h',hR'⟩:=a9p (n:=n) (K:=fun σ'=>b8m P c.H0 r σ' K) h hR
  exact a6n hK r i g' σ' a w hok hR' h'
 | .op m::r,i,g,σ,a,w,hok,hR,h =>
  b0g (K:=fun σ'=>b8m P c.H0 r σ' K) hok hR h fun g σ a w hok' h' hR'=>a6n hK r (i+1) g σ a w hok' hR' h'
 | .grp ms::r,i,g,σ,a,w,hok,hR,h=>by
  obtain ⟨α,I,p,h1,h2⟩:=Lk.out h
  refine b1v ms i g σ a w hok hR h1 fun σ' g' a' w' k1 k2 k3=>?_
  obtain ⟨y,hy,hs⟩:=Lk.out k1
  have hr':=k3.subSt hs
  exact a6n hK r _ g' (I y) a' w' k2 hr' (h2 y hy (hr'.factsSt hs.1))
theorem b9d {ops:Array Oper} {ms:List It} {Q:Exit→Act→World→Prop} {K:St→Prop} (hK:∀σ' g' a' w',K σ'→Rel P c g' σ' a' w'→Q .normal a' w')
  (hok:a18 P c.nt ops (b0m ms) ops.toList=true) (hR:Rel P c g σ a w) (h:b8m P c.H0 ms σ K):wpOps P ops Q (List.range ops.size) a w:=by
 have hl:∀{ms:List MOp} {l:List Oper},a18 P c.nt ops ms l=true→ms.length=l.length:=by
  intro ms
  induction ms with
  | nil =>
   intro l h
   cases l with
   | nil=>rfl
   | cons o s=>cases h
  | cons m r ih =>
   intro l h
   cases l with
   | nil=>cases h
   | cons o s =>
    simp only [a18,wG] at h
    simp only [wC,ih h.2]
 have:=a6n hK ms 0 g σ a w (by rw [wW];exact hok) hR h
 rw [hl hok,xG] at this
 rwa [List.range_eq_range']
end
def WF (r:Option Nat):Fence:={ Fence.wide with round:=r }
theorem d51 (r:Option Nat) (n:Nat):(WF r).room n:=room_wide n
section
variable {P:Program} {r:Option Nat} {n:Nat}
theorem b4z {f:FuncId} {args:Array Value} {w:World} {R:Ending→World→Prop} (h:Calls P f args w R):CallsIn (WF r) n P f args w R :=
 ⟨trivial,fun cs hr=>((callsIn_wide (n:=n)).2 h).2 cs hr⟩
theorem b6a {f:FuncId} {args:Array Value} {w:World} {R:Ending→World→Prop} (h:CallsIn (WF r) n P f args w R):Calls P f args w R :=
 h.calls (d51 r)
theorem c5t {row:String} {args:Array Value} {w:World} {R:Value→World→Prop} (h:Rows P row args w R):RowsIn (WF r) n P row args w R :=
 fun c cs _=>let ⟨v,w',hr,hs⟩:=h c cs;⟨v,w',hr,stepsIn_wide.2 hs⟩
def a2g (o:Oper):Bool:=match o.op with|.defer _=>false|_=>true
theorem b9l {o:Oper} (h:a2g o=true):∀c,o.op≠.defer c:=by
 intro c e;simp [a2g,e] at h
theorem d6t {o:Oper} {a:Act} {w:World} {K:Act→World→Prop} {Q:Exit→Act→World→Prop} (hd:a2g o=true) (h:o.wp P a w K Q):o.wpIn (WF r) n P a w K Q:=by
 refine ⟨fun _ _=>trivial,?_⟩
 rw [Oper.semAt_eq _ _ _ (b9l hd)]
 unfold Oper.wp at h
 generalize (execOp a.eval o).run P w=res at *
 cases res with
 | ok x w' =>
  cases x with
  | value v=>exact h
  | skip=>exact h
  | enter f args=>exact ⟨fun h=>by simp [WF,Fence.wide] at h,b4z h⟩
  | row row args=>exact ⟨fun h=>by simp [WF,Fence.wide] at h,c5t h⟩
  | _=>first|exact h|exact h.elim
 | halt x w' => 
  cases x with
  | panic v=>exact h
  | _=>exact h.elim
theorem a6p {ops:Array Oper} {Q:Exit→Act→World→Prop} (hd:(ops.toList.all a2g)=true) (hQ:∀a w,¬Q .outgrown a w) :
  ∀(l:List Nat) (a:Act) (w:World),wpOps P ops Q l a w→wpOpsIn (WF r) n P ops Q l a w
 | [],a,w,h=>h
 | i :: rest,a,w,h=>by
  simp only [wpOps] at h
  simp only [wpOpsIn]
  cases ho:ops[i]? with
  | none=>rw [ho] at h;exact a6p hd hQ rest a w h
  | some o =>
   rw [ho] at h
   have hnd:a2g o=true:=by
    have:=wF.1 hd o (by
     have:=zW (xs:=ops) (i:=i)
     rw [ho] at this
     exact xB this)
    exact this
   by_cases hw:Region.wanted o (yielded ops a.tmps)=true
   ·simp only [hw,if_true] at h ⊢
    rcases h with h|⟨_,a0,w0,h⟩
    ·exact Oper.wpIn_mono (fun a w h=>a6p hd hQ rest a w h) (d6t hnd h)
    ·exact absurd h (hQ a0 w0)
   ·simp only [hw,if_false] at h ⊢
    exact ⟨fun _ _=>trivial,a6p hd hQ rest _ w h⟩
variable {c:Ctx} {g:Gh} {σ:St} {a:Act} {w:World}
theorem c66 {id:Nat} {ops:Array Oper} {ms:List MOp} {Q:Exit→Act→World→Prop} {K:St→Prop} (hd:(ops.toList.all a2g)=true) (hQ:∀a w,¬Q .outgrown a w) (hK:∀σ' g' a' w',K σ'→Rel P c g' σ' a' w'→Q .normal a' w')
  (hok:a18 P c.nt ops ms ops.toList=true) (hR:Rel P c g σ a w) (h:runN P c.H0 ms σ K):(Code.region id ops false).wpIn (WF r) n P Q a w :=
 wpIn_region (a6p hd hQ _ _ _ (c3b hK hok hR h))
theorem c3c {id:Nat} {ops:Array Oper} {ms:List It} {Q:Exit→Act→World→Prop} {K:St→Prop} (hd:(ops.toList.all a2g)=true) (hQ:∀a w,¬Q .outgrown a w) (hK:∀σ' g' a' w',K σ'→Rel P c g' σ' a' w'→Q .normal a' w')
  (hok:a18 P c.nt ops (b0m ms) ops.toList=true) (hR:Rel P c g σ a w) (h:b8m P c.H0 ms σ K):(Code.region id ops false).wpIn (WF r) n P Q a w :=
 wpIn_region (a6p hd hQ _ _ _ (b9d hK hok hR h))
theorem c3d {id:Nat} {ops:Array Oper} {ms:List MOp} {aft anc:List (List Nat)} {Q:Exit→Act→World→Prop} {K:St→Prop} (hd:(ops.toList.all a2g)=true) (hQ:∀a w,¬Q .outgrown a w) (hmix:P.follows .mixedOrders=true)
  (hK:∀σ' g' a' w',K σ'→Rel P c g' σ' a' w'→Q .normal a' w') (hok:a18 P c.nt ops ms ops.toList=true) (haft:b1c aft ops.toList=true) (hanc:a9c anc 0 aft anc=true) (hlate:a8m ms ms anc=true) (hR:Rel P c g σ a w)
  (h:c5o P c.H0 ms [] σ fun log σ'=>a2k c.H0 σ 0 anc log.reverse=true∧K σ'):(Code.region id ops true).wpIn (WF r) n P Q a w :=
 wpIn_region_draw fun t=>a6p hd hQ _ _ _ (b9e hmix hK hok haft hanc hlate hR h t)
end
mutual
def V.within (l:List Nat):V→Bool
 | .ptr id _=>mem id l
 | .osl id _ _ _=>mem id l
 | .optr id _ _ _=>mem id l
 | .omap id=>mem id l
 | .bptr id=>mem id l
 | .agg cs=>V.withinL l cs
 | .nsl z _ _=>mem z l
 | .nsmap z _ _ _=>mem z l
 | .at_ z _=>mem z l
 | .tup cs=>V.withinL l cs
 | .fn _ cs=>V.withinL l cs
 | _=>true
def V.withinL (l:List Nat):List V→Bool
 | []=>true
 | x::r=>x.within l&&V.withinL l r
end
theorem a8p {n:Nat}:∀{l:List V},V.hasL n l=true↔∃x∈l,x.has n=true
 | []=>by simp [V.hasL]
 | y::r=>by simp [V.hasL,a8p (l:=r)]
theorem a2m {l:List Nat}:∀{cs:List V},V.withinL l cs=true↔∀x∈cs,x.within l=true
 | []=>by simp [V.withinL]
 | y::r=>by simp [V.withinL,a2m (cs:=r)]
theorem a2b {l:List Nat} {id:Nat}:∀{x:V},x.within l=true→x.has id=true→id∈l
 | .ptr i _,h,hh=>by
  simp only [V.within,V.has] at h hh
  rw [zR hh];exact mem_iff.1 h
 | .osl i _ _ _,h,hh=>by
  simp only [V.within,V.has] at h hh
  rw [zR hh];exact mem_iff.1 h
 | .optr i _ _ _,h,hh=>by
  simp only [V.within,V.has] at h hh
  rw [zR hh];exact mem_iff.1 h
 | .omap i,h,hh=>by
  simp only [V.within,V.has] at h hh
  rw [zR hh];exact mem_iff.1 h
 | .bptr i,h,hh=>by
  simp only [V.within,V.has] at h hh
  rw [zR hh];exact mem_iff.1 h
 | .nsl i _ _,h,hh=>by
  simp only [V.within,V.has] at h hh
  rw [zR hh];exact mem_iff.1 h
 | .nsmap i _ _ _,h,hh=>by
  simp only [V.within,V.has] at h hh
  rw [zR hh];exact mem_iff.1 h
 | .at_ i _,h,hh=>by
  simp only [V.within,V.has] at h hh
  rw [zR hh];exact mem_iff.1 h
 | .agg cs,h,hh=>by
  simp only [V.within,V.has] at h hh
  obtain ⟨x,hx,hxh⟩:=a8p.1 hh
  exact a2b (a2m.1 h x hx) hxh
 | .tup cs,h,hh=>by
  simp only [V.within,V.has] at h hh
  obtain ⟨x,hx,hxh⟩:=a8p.1 hh
  exact a2b (a2m.1 h x hx) hxh
 | .fn f cs,h,hh=>by
  simp only [V.within,V.has] at h hh
  obtain ⟨x,hx,hxh⟩:=a8p.1 hh
  exact a2b (a2m.1 h x hx) hxh
 | .bool _,_,hh|.int _ _,_,hh|.str _,_,hh|.nils,_,hh|.nilp,_,hh|.nilm,_,hh|.nilf,_,hh|.nili,_,hh|.sl _,_,hh|.eptr _ _,_,hh|.any,_,hh=>by simp [V.has] at hh
def d4h (g:Gh) (H:Heap) (b:Nat):Prop:=∃id o,find id H=some o∧¬g.nil id∧g.ρ id=b
def c92 (B:Nat→Prop) (W W':World):Prop :=
 W'.os=W.os∧W'.tape=W.tape∧W'.output=W.output∧W.heap.size≤W'.heap.size∧∀b,b<W.heap.size→¬B b→W'.heap[b]?=W.heap[b]?
def d4l (g:Gh) (H:Heap) (W W':World):Prop:=a1o g.S W W'∧∀b,d4h g H b→W'.heap[b]?=W.heap[b]?
def c0g (P:Program) (gf:Nat) (caps:List V) (Hc:Heap) (xss:List (List V)):Prop :=
 callable P gf=true∧∀(g:Gh) (w:World) (lb:Array Value),a2l P g w Hc→lb.size=caps.length→(∀(i:Nat) (x:V),caps[i]?=some x→VR g w (lb.getD i undef) x) →
  ∀ (l:Nat) (J:Nat→World→Prop) (Jx:World→Prop),
   (∀k W W',J k W→c92 (d4h g Hc) W W'→J k W')→(∀W W',Jx W→c92 (d4h g Hc) W W'→Jx W') →
   (∀k xs W vals,xss[k]?=some xs→vals.size=xs.length→(∀(i:Nat) (x:V),xs[i]?=some x→VR g W (vals.getD i undef) x)→J k W →
    YieldAt (WF none) 0 P l vals W fun e W'=>(e=.returned (.bool true)∧J (k+1) W'∧d4l g Hc W W')∨(e=.returned (.bool false)∧Jx W')) →
   J 0 w→CallsIn (WF none) 0 P gf (#[.func (.yield l) #[] #[]]++lb) w fun e W'=>(∃v,e=.returned v)∧(J xss.length W'∨Jx W')
structure Ctx.le (c c':Ctx):Prop where
 w0:c'.w0=c.w0
 g0:c'.g0=c.g0
 H0:c'.H0=c.H0
 nt:c'.nt=c.nt
 hm:c'.hm=c.hm
 gp:c'.gp=c.gp
 wp:c'.wp=c.wp
 kp:∃k,c'.kp=k++c.kp
 dfr:∃Ds:List Nat,c'.dfr=Ds.map (fun D=>{ target:=.collected D,args:=#[] })++c.dfr∧Ds.Nodup∧∀D∈Ds,(D,.deferred (some []))∈c'.kp∧c.free D
theorem Ctx.le.refl (c:Ctx):c.le c:=⟨rfl,rfl,rfl,rfl,rfl,rfl,rfl,⟨[],rfl⟩,⟨[],rfl,List.nodup_nil,fun _ h=>by cases h⟩⟩
theorem Ctx.le.trans {a b c:Ctx} (h:a.le b) (k:b.le c):a.le c:=by
 obtain ⟨k1,e1⟩:=h.kp
 obtain ⟨k2,e2⟩:=k.kp
 obtain ⟨D1,f1,n1,m1⟩:=h.dfr
 obtain ⟨D2,f2,n2,m2⟩:=k.dfr
 refine ⟨k.w0.trans h.w0,k.g0.trans h.g0,k.H0.trans h.H0,k.nt.trans h.nt,k.hm.trans h.hm,k.gp.trans h.gp,k.wp.trans h.wp,⟨k2++k1,by rw [e2,e1,List.append_assoc]⟩,
  ⟨D2++D1,by rw [f2,f1,List.map_append,List.append_assoc],List.nodup_append.2 ⟨n2,n1,fun x hx y hy e=>?_⟩,fun D hD=>?_⟩⟩
 ·subst e
  exact (m2 x hx).2 _ (m1 x hy).1
 ·rcases wN.1 hD with h|h
  ·exact ⟨(m2 D h).1,fun o ho=>(m2 D h).2 o (by rw [e1];exact zU _ ho)⟩
  ·exact ⟨by rw [e2];exact zU _ (m1 D h).1,(m1 D h).2⟩
section
variable {P:Program} {c c2:Ctx} {g:Gh} {σ:St} {a:Act} {w w':World}
theorem a2l.other {H:Heap} (h:a2l P g w H) (hf:Frm c g w H) (hsz:w.heap.size≤w'.heap.size) (hb:∀b,b<w.heap.size→c.free b→w'.heap[b]?=w.heap[b]?):a2l P g w' H∧a1o g.S w w':=by
 have hk:a1o g.S w w':=fun b hS=>hb b (h.lt b hS) (hf.sub b hS).2
 refine ⟨⟨fun id o ho=>(h.obj id o ho).mono (g':=g) hk (fun _ h=>h) (Gh.agree.refl _ _) (fun hn=>hb _ ((h.obj id o ho).block hn) (hf.own id o ho hn).2) (fun n _=>Gh.agree.refl _ _) hsz,h.inj,h.sep,fun b hS=>xH (h.lt b hS) hsz,
  fun w2 hw2=>h.tabs w2 fun b hS=>(hw2 b hS).trans (hk b hS)⟩,hk⟩
theorem Frm.other {H:Heap} {ds:List Deferred} (hf:Frm c g w H) (h:a2l P g w H) (hd:Dfr c w ds) (e0:c2.w0=c.w0) (eg:c2.g0=c.g0) (eh:c2.hm=c.hm) (hgp:∀b,c2.gp.S b→g.S b) (hpar:∀id o,find id c2.H0=some o→c2.gp.agree g id)
  (hos:w'.os=w.os) (ht:w'.tape=w.tape) (ho:w'.output=w.output) (hsz:w.heap.size≤w'.heap.size) (hb:∀b,b<w.heap.size→c.free b→w'.heap[b]?=w.heap[b]?) (hfr:∀b,b<w.heap.size→(g.S b∨d4h g H b)→c.free b→c2.free b):Frm c2 g w' H:=by
 have hM:∀b,c2.M b↔c.M b:=fun b=>by simp only [Ctx.M,eg,eh]
 refine ⟨by rw [e0,hos,hf.os],by rw [e0,ht,hf.tape],by rw [e0,ho,hf.output],by rw [e0];exact vD hf.size hsz,fun b hlt hm=>?_,fun id o hi hn=>⟨?_,?_⟩,fun b hS=>?_,fun b hS=>⟨?_,?_⟩,hpar⟩
 ·rw [e0] at hlt ⊢
  refine (hb b (xH hlt hf.size) fun o hm'=>?_).trans (hf.old b hlt fun h=>hm ((hM b).2 h))
  rcases (hd.2.1 b o hm').1 with h1|h1
  ·omega
  ·exact hm ((hM b).2 h1)
 ·rw [e0,hM];exact (hf.own id o hi hn).1
 ·exact hfr _ ((h.obj id o hi).block hn) (.inr ⟨id,o,hi,hn,rfl⟩) (hf.own id o hi hn).2
 ·rcases hS with hS|hS
  ·rw [eg] at hS;exact hf.sup b (.inl hS)
  ·exact hgp b hS
 ·rw [e0,eg,hM];exact (hf.sub b hS).1
 ·exact hfr _ (h.lt b hS) (.inl hS) (hf.sub b hS).2
end
def b5o (H0:Heap) (pins:List Nat):Heap:=pins.map (fun i=>(i,a0c.iter [] none))++H0
theorem a8y {H0:Heap} {id:Nat}:∀{pins:List Nat},(∃o,find id (b5o H0 pins)=some o)↔(id∈pins∨∃o,find id H0=some o)
 | []=>by simp [b5o]
 | p::r=>by
  have ih:=a8y (H0:=H0) (id:=id) (pins:=r)
  simp only [b5o] at ih
  simp only [b5o,w5,wE,find]
  cases hb:Nat.beq id p with
  | true=>simp [zR hb]
  | false =>
   have:id≠p:=fun e=>by rw [e,vE] at hb;cases hb
   simp only [vO,ih,w4,this,false_or]
def b3t:List Nat→List V→List (Nat×V)→List (Nat×V)
 | p::ps,x::xs,e=>b3t ps xs (put p x e)
 | _,_,e=>e
def b7v (pins:List Nat):List (Nat×V)→Bool
 | []=>true
 | (_,x)::r=>x.within pins&&b7v pins r
theorem b03 {pins:List Nat} {s:Nat} {x:V}:∀{e:List (Nat×V)},b7v pins e=true→find s e=some x→x.within pins=true
 | (n,y)::r,h,hf=>by
  simp only [b7v,wG] at h
  simp only [find] at hf
  cases hb:Nat.beq s n with
  | true=>rw [hb] at hf;cases hf;exact h.1
  | false=>rw [hb] at hf;exact b03 h.2 hf
def c4n (nt:Nat) (g:Gh) (w:World) (tmps:Array Value) (e:List (Nat×V)):Prop:=∀s x,find s e=some x→s<nt∧VR g w (tmps.getD s undef) x
theorem c4n.puts {nt:Nat} {g:Gh} {w:World}:∀{ps:List Nat} {xs:List V} {vs:List Value} {tmps:Array Value} {e:List (Nat×V)},c4n nt g w tmps e→tmps.size=nt→(∀p∈ps,p<nt)→xs.length=vs.length →
  (∀(i:Nat) (x:V),xs[i]?=some x→VR g w ((vs[i]?).getD undef) x) →
  c4n nt g w ((ps.zip vs).foldl (fun t (p,v)=>t.setIfInBounds p v) tmps) (b3t ps xs e)∧((ps.zip vs).foldl (fun t (p,v)=>t.setIfInBounds p v) tmps).size=nt
 | [],xs,vs,tmps,e,h,hs,_,_,_=>by cases xs<;>exact ⟨h,hs⟩
 | p::ps,[],[],tmps,e,h,hs,_,_,_=>⟨h,hs⟩
 | p::ps,x::xs,v::vs,tmps,e,h,hs,hp,hl,hv=>by
  simp only [b3t,List.zip_cons_cons,wQ]
  refine c4n.puts (fun s y hy=>?_) (by simp [hs]) (fun q hq=>hp q (xD _ hq)) (by simpa using hl) fun i y hy=>by simpa using hv (i+1) y (by simpa using hy)
  have hpn:=hp p xJ
  rw [a0s] at hy
  by_cases e1:s=p
  ·subst e1
   simp at hy;subst hy
   refine ⟨hpn,?_⟩
   have:s<tmps.size:=by omega
   simpa [zC,this] using hv 0 x rfl
  ·simp only [e1,if_false] at hy
   obtain ⟨h1,h2⟩:=h s y hy
   have hne:¬p=s:=fun e=>e1 e.symm
   exact ⟨h1,by simpa [zC,zA hne] using h2⟩
inductive MC where
 | skip
 | ret
 | exit (id:Nat)
 | reg (ms:List MOp)
 | regI (its:List It)
 | regD (ms:List MOp) (aft anc:List (List Nat))
 | seq (a b:MC)
 | cut (a b:MC)
 | cond (c:Opd) (t e:MC)
 | block (id:Nat) (b:MC)
 | loop (b:MC)
 | note (n:a3l) (b:MC)
 | rngF (g:Opd) (ps:List Nat) (a b:MC)
 | no
 | hnote (T:St→(St→Prop)→Prop) (b:MC)
def d3e (n:Nat):List Nat→Bool
 | []=>true
 | x::r=>Nat.blt x n&&d3e n r
theorem c2g {n:Nat}:∀{l:List Nat},d3e n l=true→∀p∈l,p<n
 | x::r,h,p,hp=>by
  simp only [d3e,wG] at h
  rcases w4.1 hp with e|hp
  ·subst e;have:=h.1;simp [Nat.blt] at this;omega
  ·exact c2g h.2 p hp
def MC.flat:MC→Bool
 | .rngF _ _ _ _=>false
 | .hnote _ _=>false
 | .seq a b|.cut a b=>a.flat&&b.flat
 | .cond _ t e=>t.flat&&e.flat
 | .block _ b|.loop b|.note _ b=>b.flat
 | _=>true
def MC.nh:MC→Bool
 | .hnote _ _=>false
 | .seq a b|.cut a b=>a.nh&&b.nh
 | .cond _ t e=>t.nh&&e.nh
 | .block _ b|.loop b|.note _ b=>b.nh
 | _=>true
def MC.ok (P:Program) (nt:Nat):MC→Code→Bool
 | .note _ b,c=>b.ok P nt c
 | .hnote _ b,c=>b.ok P nt c
 | .no,_=>true
 | .skip,.skip=>true
 | .ret,.ret=>true
 | .exit i,.exit j=>Nat.beq i j
 | .reg ms,.region _ ops draw=>!draw&&ops.toList.all a2g&&a18 P nt ops ms ops.toList
 | .regI its,.region _ ops draw=>!draw&&ops.toList.all a2g&&a18 P nt ops (b0m its) ops.toList
 | .regD ms aft anc,.region _ ops draw=>draw&&ops.toList.all a2g&&P.follows .mixedOrders&&a18 P nt ops ms ops.toList&&b1c aft ops.toList&&a9c anc 0 aft anc&&a8m ms ms anc
 | .seq a b,.seq c d=>a.ok P nt c&&b.ok P nt d
 | .cut a b,.seq c d=>a.ok P nt c&&b.ok P nt d
 | .cond x t e,.cond y c d=>x.ok y&&t.ok P nt c&&e.ok P nt d
 | .block i b,.block j c=>Nat.beq i j&&b.ok P nt c
 | .loop b,.loop c=>b.ok P nt c
 | .rngF x ps a b,.rangeFunc y qs c d=>x.ok y&&b2b ps qs.toList&&d3e nt ps&&a.flat&&b.flat&&a.ok P nt c&&b.ok P nt d
 | _,_=>false
def b3z (c:Opd) (b:Bool) (σ:St):St :=
 match c with
 | .t s=>⟨put s (.bool b) σ.env,σ.heap⟩
 | _=>σ
def MWP (P:Program) (H0:Heap):MC→(St→Prop)→(Nat→St→Prop)→(St→Prop)→St→Prop
 | .skip,K,_,_,σ=>K σ
 | .ret,_,_,R,σ=>R σ
 | .exit id,_,X,_,σ=>X id σ
 | .reg ms,K,_,_,σ=>runN P H0 ms σ K
 | .regI its,K,_,_,σ=>b8m P H0 its σ K
 | .regD ms _ anc,K,_,_,σ=>c5o P H0 ms [] σ fun log σ'=>a2k H0 σ 0 anc log.reverse=true∧K σ'
 | .seq a b,K,X,R,σ=>MWP P H0 a (fun σ'=>MWP P H0 b K X R σ') X R σ
 | .cut a b,K,X,R,σ=>Lk (∃(α:Type) (I:α→St) (p:α→Prop) (ns:List a3l),MWP P H0 a (fun σ'=>Lk (a0g H0 ns σ' fun σ'=>∃y,p y∧a0j (I y) σ')) X R σ∧∀y,p y→factsSt (I y)→MWP P H0 b K X R (I y))
 | .cond c t e,K,X,R,σ=>match c.ev σ.env with
  | .bool b=>a3f b true (MWP P H0 t K X R (b3z c true σ)) (MWP P H0 e K X R (b3z c false σ))
  | _=>False
 | .block id b,K,X,R,σ=>MWP P H0 b K (fun i σ'=>bif Nat.beq i id then K σ' else X i σ') R σ
 | .loop b,K,X,R,σ=>Lk (∃(α:Type) (I:α→St) (p:α→Prop) (μ:α→Nat) (ns:List a3l),(a0g H0 ns σ fun σ'=>∃x,p x∧a0j (I x) σ') ∧
   ∀x,p x→factsSt (I x)→MWP P H0 b (fun σ'=>Lk (a0g H0 ns σ' fun σ'=>∃y,p y∧μ y<μ x∧a0j (I y) σ')) X R (I x))
 | .note n b,K,X,R,σ=>a0l H0 n σ fun σ'=>MWP P H0 b K X R σ'
 | .rngF s ps a b,K,X,R,σ=>match s.ev σ.env with
  | .fn (.func gf) caps=>Lk (∃(Hc:Heap) (xss:List (List V)) (pins:List Nat) (α:Type) (I:Nat→α→Heap) (p:Nat→α→Prop) (ns:List a3l),
    c0g P gf caps Hc xss∧a0j ⟨[],Hc⟩ σ∧b7v pins σ.env=true∧(∀xs∈xss,xs.length=ps.length∧V.withinL [] xs=true)∧(∃x,p 0 x∧a0j ⟨[],I 0 x⟩ σ∧∀q∈Hc,find q.1 (I 0 x)=none) ∧
    (∀k x xs,xss[k]?=some xs→p k x→a90 (I k x)→MWP P (b5o H0 pins) a (fun σ1=>MWP P (b5o H0 pins) b (fun σ'=>Lk (a0g (b5o H0 pins) ns σ' fun σ'=>∃y,p (k+1) y∧a0j ⟨[],I (k+1) y⟩ σ'))
     (fun i σ'=>X i ⟨σ.env,σ'.heap⟩) (fun σ'=>R ⟨σ.env,σ'.heap⟩) σ1) (fun _ _=>False) (fun _=>False) ⟨b3t ps xs σ.env,I k x⟩) ∧
    (∀x,p xss.length x→K ⟨σ.env,I xss.length x⟩))
  | _=>False
 | .no,_,_,_,_=>False
 | .hnote T b,K,X,R,σ=>T σ fun σ'=>MWP P H0 b K X R σ'
section
variable {P:Program} {c:Ctx}
theorem exists_least (p:Nat→Prop) (h:∃n,p n):∃n,p n∧∀m,p m→n≤m:=by
 obtain ⟨n,hn⟩:=h
 induction n using Nat.strongRecOn with
 | _ n ih =>
  by_cases hm:∃m,m<n∧p m
  ·obtain ⟨m,h1,h2⟩:=hm
   exact ih m h1 h2
  ·exact ⟨n,hn,fun m hp=>Nat.le_of_not_lt fun hlt=>hm ⟨m,hlt,hp⟩⟩
open Classical in
theorem wpIn_loop' {F:Fence} {n:Nat} {Q:Exit→Act→World→Prop} {body:Code} {α:Type} (I:α→Act→World→Prop) (μ:α→Nat) {a:Act} {w:World} (h0:∃x,I x a w)
  (round:∀x a w,I x a w→body.wpIn F n P (Exit.then (fun a' w'=>∃y,I y a' w'∧μ y<μ x) Q) a w):(Code.loop body).wpIn F n P Q a w:=by
 let p:Act→World→Nat→Prop:=fun a w n=>∃x,I x a w∧μ x=n
 let m:Act→World→Nat:=fun a w=>if h:∃n,p a w n then Classical.choose (exists_least _ h) else 0
 refine wpIn_loop (fun a w=>∃x,I x a w) m h0 fun a w hx=>?_
 have hex:∃n,p a w n:=by obtain ⟨x,hx⟩:=hx;exact ⟨_,x,hx,rfl⟩
 have hm:m a w=Classical.choose (exists_least _ hex):=by simp [m,hex]
 obtain ⟨⟨x,hI,hμ⟩,_⟩:=Classical.choose_spec (exists_least _ hex)
 refine wpIn_mono (round x a w hI) fun e a' w' hq=>?_
 cases e with
 | normal =>
  obtain ⟨y,hy,hlt⟩:=hq
  refine ⟨⟨y,hy⟩,?_⟩
  have hex':∃n,p a' w' n:=⟨_,y,hy,rfl⟩
  have hm':m a' w'=Classical.choose (exists_least _ hex'):=by simp [m,hex']
  have:=(Classical.choose_spec (exists_least _ hex')).2 (μ y) ⟨y,hy,rfl⟩
  rw [hm',hm,←hμ]
  omega
 | _=>exact hq
theorem b80 {g:Gh} {σ:St} {a:Act} {w:World} {x:Opd} {b:Bool} (h:Rel P c g σ a w) (hx:x.ev σ.env=.bool b):b3z x b σ=σ:=by
 cases x with
 | t s=>simp only [b3z,a3w (a8t hx)]
 | _=>rfl
def a6k (P:Program) (c:Ctx):MC→Prop
 | .hnote T b=>(∀(K:St→Prop) (c':Ctx) (g:Gh) (σ:St) (a:Act) (w:World),c.le c'→Rel P c' g σ a w→T σ K→∃g' σ',K σ'∧Rel P c' g' σ' a w)∧a6k P c b
 | .seq a b|.cut a b=>a6k P c a∧a6k P c b
 | .cond _ t e=>a6k P c t∧a6k P c e
 | .block _ b|.loop b|.note _ b=>a6k P c b
 | _=>True
theorem a6k.of_nh:∀{mc:MC},mc.nh=true→a6k P c mc
 | .hnote _ _,h=>by cases h
 | .seq a b,h=>by simp only [MC.nh,wG] at h;exact ⟨a6k.of_nh h.1,a6k.of_nh h.2⟩
 | .cut a b,h=>by simp only [MC.nh,wG] at h;exact ⟨a6k.of_nh h.1,a6k.of_nh h.2⟩
 | .cond _ t e,h=>by simp only [MC.nh,wG] at h;exact ⟨a6k.of_nh h.1,a6k.of_nh h.2⟩
 | .block _ b,h=>by simp only [MC.nh] at h;exact a6k.of_nh (mc:=b) h
 | .loop b,h=>by simp only [MC.nh] at h;exact a6k.of_nh (mc:=b) h
 | .note _ b,h=>by simp only [MC.nh] at h;exact a6k.of_nh (mc:=b) h
 | .skip,_|.ret,_|.exit _,_|.reg _,_|.regI _,_|.regD _ _ _,_|.rngF _ _ _ _,_|.no,_=>trivial
theorem MC.flat_nh:∀{mc:MC},mc.flat=true→mc.nh=true
 | .hnote _ _,h=>by cases h
 | .seq a b,h=>by simp only [MC.flat,wG] at h;simp only [MC.nh,MC.flat_nh h.1,MC.flat_nh h.2,w8]
 | .cut a b,h=>by simp only [MC.flat,wG] at h;simp only [MC.nh,MC.flat_nh h.1,MC.flat_nh h.2,w8]
 | .cond _ t e,h=>by simp only [MC.flat,wG] at h;simp only [MC.nh,MC.flat_nh h.1,MC.flat_nh h.2,w8]
 | .block _ b,h=>by simp only [MC.flat] at h;simp only [MC.nh,MC.flat_nh (mc:=b) h]
 | .loop b,h=>by simp only [MC.flat] at h;simp only [MC.nh,MC.flat_nh (mc:=b) h]
 | .note _ b,h=>by simp only [MC.flat] at h;simp only [MC.nh,MC.flat_nh (mc:=b) h]
 | .skip,_|.ret,_|.exit _,_|.reg _,_|.regI _,_|.regD _ _ _,_|.rngF _ _ _ _,_|.no,_=>rfl
theorem a6k.mono {c':Ctx} (hl:c.le c'):∀{mc:MC},a6k P c mc→a6k P c' mc
 | .hnote _ b,h=>⟨fun K c2 g σ a w h2=>h.1 K c2 g σ a w (hl.trans h2),a6k.mono hl h.2⟩
 | .seq a b,h=>⟨a6k.mono hl h.1,a6k.mono hl h.2⟩
 | .cut a b,h=>⟨a6k.mono hl h.1,a6k.mono hl h.2⟩
 | .cond _ t e,h=>⟨a6k.mono hl h.1,a6k.mono hl h.2⟩
 | .block _ b,h=>a6k.mono (mc:=b) hl h
 | .loop b,h=>a6k.mono (mc:=b) hl h
 | .note _ b,h=>a6k.mono (mc:=b) hl h
 | .skip,_|.ret,_|.exit _,_|.reg _,_|.regI _,_|.regD _ _ _,_|.rngF _ _ _ _,_|.no,_=>trivial
def d3h (P:Program) (r:Option Nat) (mc:MC):Prop :=
 ∀ ⦃n:Nat⦄ ⦃c:Ctx⦄ ⦃code:Code⦄ ⦃Q:Exit→Act→World→Prop⦄ ⦃K:St→Prop⦄ ⦃X:Nat→St→Prop⦄ ⦃R:St→Prop⦄ ⦃g:Gh⦄ ⦃σ:St⦄ ⦃a:Act⦄ ⦃w:World⦄,a6k P c mc→(∀a w,¬Q .outgrown a w)→mc.ok P c.nt code=true→Rel P c g σ a w→MWP P c.H0 mc K X R σ →
  (∀c' σ g a w,c.le c'→K σ→Rel P c' g σ a w→Q .normal a w)→(∀c' i σ g a w,c.le c'→X i σ→Rel P c' g σ a w→Q (.exit i) a w)→(∀c' σ g a w,c.le c'→R σ→Rel P c' g σ a w→Q .ret a w)→code.wpIn (WF r) n P Q a w
section
variable {g:Gh} {w w':World} {H:Heap} {c c2 c':Ctx} {ds:List Deferred}
theorem b6y (h:a2l P g w H) (hf:Frm c g w H) (hd:Dfr c w ds) (e0:c2.w0=c.w0) (eg:c2.g0=c.g0) (eh:c2.hm=c.hm) (hgp:∀b,c2.gp.S b→g.S b) (hpar:∀id o,find id c2.H0=some o→c2.gp.agree g id)
  (hos:w'.os=w.os) (ht:w'.tape=w.tape) (ho:w'.output=w.output) (hsz:w.heap.size≤w'.heap.size) (hb:∀b,b<w.heap.size→c.free b→w'.heap[b]?=w.heap[b]?) (hfr:∀b,b<w.heap.size→(g.S b∨d4h g H b)→c.free b→c2.free b) :
  a2l P g w' H∧Frm c2 g w' H∧a1o g.S w w' :=
 ⟨(h.other hf hsz hb).1,hf.other h hd e0 eg eh hgp hpar hos ht ho hsz hb hfr,(h.other hf hsz hb).2⟩
theorem b9q (hl:c.le c') (h:a2l P g w H) (hf:Frm c' g w H) (hd:Dfr c' w ds):Frm c g w H∧Dfr c w c.dfr:=by
 obtain ⟨k,ek⟩:=hl.kp
 have hfr:∀b,c'.free b→c.free b:=fun b hb o ho=>hb o (by rw [ek];exact zU _ ho)
 refine ⟨hf.other h hd hl.w0.symm hl.g0.symm hl.hm.symm (fun b hS=>hf.sup b (.inr (by rw [hl.gp];exact hS))) (fun id o ho=>?_) rfl rfl rfl (vL _) (fun _ _ _=>rfl) (fun b _ _=>hfr b),rfl,fun b o ho=>?_,?_⟩
 ·rw [←hl.gp];exact hf.par id o (by rw [hl.H0];exact ho)
 ·have:=hd.2.1 b o (by rw [ek];exact zU _ ho)
  simp only [Ctx.M,hl.w0,hl.hm,hl.g0] at this ⊢;exact this
 ·have:=hd.2.2
  rwa [hl.gp,hl.wp] at this
end
theorem b63 {α:Type} {n:Nat} {x:α}:∀{l:List (Nat×α)},find n l=some x→(n,x)∈l
 | (m,y)::r,h=>by
  simp only [find] at h
  cases hb:Nat.beq n m with
  | true=>rw [hb] at h;cases h;rw [zR hb];exact xJ
  | false=>rw [hb] at h;exact xD _ (b63 h)
open Classical in
theorem c8o (g:Gh) (Hc:Heap):∃bl:List Nat,∀b,b∈bl↔d4h g Hc b:=by
 have key:∀l:List Nat,∃bl:List Nat,∀b,b∈bl↔∃id,id∈l∧(∃o,find id Hc=some o)∧¬g.nil id∧g.ρ id=b:=fun l=>by
  induction l with
  | nil=>exact ⟨[],fun b=>by simp⟩
  | cons i r ih =>
   obtain ⟨bl,h⟩:=ih
   by_cases hc:(∃o,find i Hc=some o)∧¬g.nil i
   ·refine ⟨g.ρ i::bl,fun b=>?_⟩
    rw [w4,h]
    constructor
    ·rintro (rfl|⟨id,h1,h2⟩)
     ·exact ⟨i,by simp,hc.1,hc.2,rfl⟩
     ·exact ⟨id,by simp [h1],h2⟩
    ·rintro ⟨id,h1,h2,h3,h4⟩
     rcases w4.1 h1 with rfl|h1
     ·exact .inl h4.symm
     ·exact .inr ⟨id,h1,h2,h3,h4⟩
   ·refine ⟨bl,fun b=>?_⟩
    rw [h]
    constructor
    ·rintro ⟨id,h1,h2⟩;exact ⟨id,by simp [h1],h2⟩
    ·rintro ⟨id,h1,h2,h3,h4⟩
     rcases w4.1 h1 with rfl|h1
     ·exact absurd ⟨h2,h3⟩ hc
     ·exact ⟨id,h1,h2,h3,h4⟩
 obtain ⟨bl,h⟩:=key (Hc.map (·.1))
 refine ⟨bl,fun b=>(h b).trans ⟨?_,?_⟩⟩
 ·rintro ⟨id,_,⟨o,h1⟩,h2,h3⟩;exact ⟨id,o,h1,h2,h3⟩
 ·rintro ⟨id,o,h1,h2,h3⟩;exact ⟨id,vG.2 ⟨(id,o),b63 h1,rfl⟩,⟨o,h1⟩,h2,h3⟩
theorem c33 (s:Opd) (ps:List Nat) (a b:MC) (ha:∀l,a.flat=true→d3h P (some l) a) (hb:∀l,b.flat=true→d3h P (some l) b):d3h P none (.rngF s ps a b):=by
 intro n c code Q K X R g σ ac w hN hQ hok hR h hK hX hT
 cases code<;>try (simp [MC.ok] at hok;done)
 rename_i y qs casg cbody
 simp only [MC.ok,wG] at hok
 obtain ⟨⟨⟨⟨⟨⟨h1,h2⟩,h3⟩,h4⟩,h5⟩,h6⟩,h7⟩:=hok
 have hps:=b2a h2
 simp only [MWP] at h
 split at h
 case h_2=>exact h.elim
 rename_i gf caps hev
 have hv:=Opd.vr hR h1
 rw [hev] at hv
 obtain ⟨lb,ev,hlb,hvl⟩:=hv.fn_inv
 obtain ⟨Hc,xss,pins,α,I,p,ns,⟨hcb,hit⟩,hsc,hpin,hxs,⟨x0,hp0,hs0,hdis⟩,round,hdone⟩:=Lk.out h
 have hRc:=hR.subSt hsc
 obtain ⟨bl,hbl⟩:=c8o g Hc
 have hblw:∀k,k∈bl→k<w.heap.size∧c.free k∧(c.w0.heap.size≤k∨c.M k)∧¬g.S k:=fun k hk=>by
  obtain ⟨id,o,h1,h2,rfl⟩:=(hbl k).1 hk
  exact ⟨(hRc.hp.obj id o h1).block h2,(hRc.fr.own id o h1 h2).2,(hRc.fr.own id o h1 h2).1,hRc.hp.sep id o h1 h2⟩
 refine wpIn_rangeFunc ?_
 intro fn _
 obtain ⟨rec,hrec⟩:∃rec:LoopState→Option Code→Loop,rec=fun st pe=>{ state:=st,pending:=pe,fn,tmps:=ac.tmps,params:=qs,assign:=casg,body:=cbody,defers:=w.heap.size }:=⟨_,rfl⟩
 obtain ⟨W1,hW1⟩:∃W1,(w.alloc (.deferred (some []))).alloc (.loop (rec .ready none))=W1:=⟨_,rfl⟩
 have hsz1:W1.heap.size=w.heap.size+2:=by rw [←hW1];simp
 have hL1:W1.heap[w.heap.size+1]?=some (.loop (rec .ready none)):=by
  rw [←hW1];have:=World.alloc_heap_new (w.alloc (.deferred (some []))) (.loop (rec .ready none));rwa [World.size_alloc] at this
 have hK1:W1.heap[w.heap.size]?=some (.deferred (some [])):=by
  rw [←hW1];exact (Below.heap_alloc _ _ _ (by simp)).trans (World.alloc_heap_new w _)
 have hO1:∀k,k<w.heap.size→W1.heap[k]?=w.heap[k]?:=fun k hk=>by
  rw [←hW1];exact (Below.heap_alloc _ _ _ (by simp;omega)).trans (Below.heap_alloc _ _ _ hk)
 obtain ⟨cJ,hcJ⟩:∃cJ:(Nat→Obj)→LoopState→Option Code→Ctx,cJ=fun cs st pe=>{ c with H0:=b5o c.H0 pins,gp:=g,wp:=w,dfr:=[],kp:=(w.heap.size+1,.loop (rec st pe))::(w.heap.size,.deferred (some []))::(bl.map (fun b=>(b,cs b))++c.kp) }:=⟨_,rfl⟩
 have hkpw:∀k o,(k,o)∈c.kp→k<w.heap.size:=fun k o ho=>(zF.1 (hR.dfr.2.1 k o ho).2).1
 have hkpt:∀(cs:Nat→Obj) k o,(k,o)∈(w.heap.size,Obj.deferred (some []))::(bl.map (fun b=>(b,cs b))++c.kp)→k≠w.heap.size+1:=fun cs k o ho=>by
  rcases w4.1 ho with e|ho
  ·cases e;omega
  rcases wN.1 ho with ho|ho
  ·obtain ⟨q,hq,e⟩:=vG.1 ho
   cases e;have:=(hblw k hq).1;omega
  ·have:=hkpw k o ho;omega
 have hkp2:∀(cs:Nat→Obj) k o,(k,o)∈(w.heap.size,Obj.deferred (some []))::c.kp→(k,o)∈(w.heap.size,Obj.deferred (some []))::(bl.map (fun b=>(b,cs b))++c.kp):=fun cs k o ho=>by
  rcases w4.1 ho with e|ho
  ·rw [e];exact xJ
  ·exact xD _ (zU _ ho)
 have hfree:∀cs st pe k,(cJ cs st pe).free k↔(k≠w.heap.size+1∧k≠w.heap.size∧k∉bl∧c.free k):=fun cs st pe k=>by
  rw [hcJ]
  constructor
  ·intro h
   exact ⟨fun e=>h _ (by rw [e];exact xJ),fun e=>h _ (by rw [e];exact xD _ xJ),fun e=>h (cs k) (xD _ (xD _ (List.mem_append_left _ (vG.2 ⟨k,e,rfl⟩)))),fun o ho=>h o (xD _ (xD _ (zU _ ho)))⟩
  ·rintro ⟨e1,e2,e4,e3⟩ o ho
   rcases w4.1 ho with e|ho
   ·exact e1 (by cases e;rfl)
   rcases w4.1 ho with e|ho
   ·exact e2 (by cases e;rfl)
   rcases wN.1 ho with ho|ho
   ·obtain ⟨q,hq,e⟩:=vG.1 ho
    cases e;exact e4 hq
   ·exact e3 o ho
 have hsupJ:∀{cs st pe gb W HH},Frm (cJ cs st pe) gb W HH→∀k,g.S k→gb.S k:=fun hf k hS=>hf.sup k (.inr (by rw [hcJ];exact hS))
 have hparJ:∀{cs st pe gb W HH},Frm (cJ cs st pe) gb W HH→∀cs' st' pe' id o,find id (cJ cs' st' pe').H0=some o→(cJ cs' st' pe').gp.agree gb id:=fun hf cs' st' pe' id o ho=>by
  have:=hf.par id o (by rw [hcJ] at ho ⊢;exact ho)
  rw [hcJ] at this ⊢;exact this
 have turn:∀{cs st pe gb W HH} (st':LoopState) (pe':Option Code),a2l P gb W HH→Frm (cJ cs st pe) gb W HH→Dfr (cJ cs st pe) W [] →
   a2l P gb (W.putObj (w.heap.size+1) (.loop (rec st' pe'))) HH∧Frm (cJ cs st' pe') gb (W.putObj (w.heap.size+1) (.loop (rec st' pe'))) HH∧Dfr (cJ cs st' pe') (W.putObj (w.heap.size+1) (.loop (rec st' pe'))) []∧a1o gb.S W (W.putObj (w.heap.size+1) (.loop (rec st' pe'))):=by
  intro cs st pe gb W HH st' pe' hh hf hd
  obtain ⟨k1,k2,k3⟩:=b6y (c2:=cJ cs st' pe') (w':=W.putObj (w.heap.size+1) (.loop (rec st' pe'))) hh hf hd (by rw [hcJ]) (by rw [hcJ]) (by rw [hcJ]) (fun k hS=>hsupJ hf k (by rw [hcJ] at hS;exact hS)) (hparJ hf cs st' pe') rfl rfl rfl (by simp)
   (fun k _ hk=>World.putObj_heap_other ((hfree cs st pe k).1 hk).1) (fun k _ _ hk=>(hfree cs st' pe' k).2 ((hfree cs st pe k).1 hk))
  have hl:W.heap[w.heap.size+1]?=some (.loop (rec st pe)):=(hd.2.1 _ _ (by rw [hcJ];exact xJ)).2
  refine ⟨k1,k2,⟨by rw [hcJ],fun k o ho=>?_,fun k hS=>?_⟩,k3⟩
  ·rw [hcJ] at ho
   rcases w4.1 ho with e|ho'
   ·cases e
    exact ⟨by have:=(hd.2.1 (w.heap.size+1) _ (by rw [hcJ];exact xJ)).1;rw [hcJ] at this ⊢;exact this,World.putObj_heap_same (zF.1 hl).1⟩
   ·have hne:k≠w.heap.size+1:=hkpt cs k o ho'
    have:=hd.2.1 k o (by rw [hcJ];exact xD _ ho')
    refine ⟨?_,(World.putObj_heap_other hne).trans this.2⟩
    have h0:=this.1
    rw [hcJ] at h0 ⊢;exact h0
  ·rw [hcJ] at hS
   have h0:=hd.2.2 k (by rw [hcJ];exact hS)
   refine (k3 k (hsupJ hf k hS)).trans ?_
   rw [hcJ] at h0 ⊢;exact h0
 obtain ⟨J,hJ⟩:∃J:Nat→World→Prop,J=fun k W=>∃cs gb y,p k y∧(⟨[],I k y⟩:St).good=true∧a2l P gb W (I k y)∧Frm (cJ cs .ready none) gb W (I k y)∧Dfr (cJ cs .ready none) W []:=⟨_,rfl⟩
 obtain ⟨Jx,hJx⟩:∃Jx:World→Prop,Jx=fun W=>∃cs gb HH jump,((jump=Code.ret∧R ⟨σ.env,HH⟩)∨∃i,jump=Code.exit i∧X i ⟨σ.env,HH⟩)∧a2l P gb W HH∧Frm (cJ cs .done (some jump)) gb W HH∧Dfr (cJ cs .done (some jump)) W []:=⟨_,rfl⟩
 have still:∀{cs st pe gb HH W W'},a2l P gb W HH→Frm (cJ cs st pe) gb W HH→Dfr (cJ cs st pe) W []→c92 (d4h g Hc) W W'→∃cs',a2l P gb W' HH∧Frm (cJ cs' st pe) gb W' HH∧Dfr (cJ cs' st pe) W' []:=by
  intro cs st pe gb HH W W' hh hf hd ⟨i1,i2,i3,i4,i5⟩
  obtain ⟨cs',hcs'⟩:∃cs':Nat→Obj,cs'=fun k=>(W'.heap[k]?).getD (.deferred none):=⟨_,rfl⟩
  have hfr:∀k,(cJ cs st pe).free k→(cJ cs' st pe).free k:=fun k h=>(hfree cs' st pe k).2 ((hfree cs st pe k).1 h)
  obtain ⟨k1,k2,k3⟩:=b6y (c2:=cJ cs' st pe) hh hf hd (by rw [hcJ]) (by rw [hcJ]) (by rw [hcJ]) (fun k hS=>hsupJ hf k (by rw [hcJ] at hS;exact hS)) (hparJ hf cs' st pe) i1 i2 i3 i4 (fun k hk hfk=>i5 k hk fun hb=>((hfree cs st pe k).1 hfk).2.2.1 ((hbl k).2 hb)) (fun k _ _ h=>hfr k h)
  have hW:∀k o,(k,o)∈(cJ cs st pe).kp→k<W.heap.size:=fun k o ho=>(zF.1 (hd.2.1 k o ho).2).1
  refine ⟨cs',k1,k2,by rw [hcJ],fun k o ho=>?_,fun k hS=>(k3 k (hsupJ hf k (by rw [hcJ] at hS;exact hS))).trans (by have:=hd.2.2 k (by rw [hcJ] at hS ⊢;exact hS);rw [hcJ] at this ⊢;exact this)⟩
  have out:k∉bl→(k,o)∈(cJ cs st pe).kp→((cJ cs' st pe).w0.heap.size≤k∨(cJ cs' st pe).M k)∧W'.heap[k]?=some o:=fun hk hm=>by
   have:=hd.2.1 k o hm
   refine ⟨?_,(i5 k (hW k o hm) fun hb=>hk ((hbl k).2 hb)).trans this.2⟩
   have h0:=this.1
   rw [hcJ] at h0 ⊢;exact h0
  rw [hcJ] at ho
  rcases w4.1 ho with e|ho
  ·cases e
   exact out (fun hk=>by have:=(hblw _ hk).1;omega) (by rw [hcJ];exact xJ)
  rcases w4.1 ho with e|ho
  ·cases e
   exact out (fun hk=>by have:=(hblw _ hk).1;omega) (by rw [hcJ];exact xD _ xJ)
  rcases wN.1 ho with ho|ho
  ·obtain ⟨q,hq,e⟩:=vG.1 ho
   cases e
   have hlt:=hW k (cs k) (by rw [hcJ];exact xD _ (xD _ (List.mem_append_left _ (vG.2 ⟨k,hq,rfl⟩))))
   have hlt':k<W'.heap.size:=by omega
   refine ⟨by rw [hcJ];exact (hblw k hq).2.2.1,?_⟩
   simp only [hcs',zI hlt',xY]
  ·exact out (fun hk=>(hblw _ hk).2.1 o ho) (by rw [hcJ];exact xD _ (xD _ (zU _ ho)))
 have fin:∀{cs st pe gb HH W} (o:Obj),a2l P gb W HH→Frm (cJ cs st pe) gb W HH→Dfr (cJ cs st pe) W [] →
   ∃c2,c.le c2∧Rel P c2 gb ⟨σ.env,HH⟩ { ac with defers:=[{ target:=.collected w.heap.size,args:=#[] }]++ac.defers } (W.putObj (w.heap.size+1) o):=by
  intro cs st pe gb HH W o hh hf hd
  refine ⟨{ c with dfr:={ target:=.collected w.heap.size,args:=#[] }::c.dfr,kp:=(w.heap.size,.deferred (some []))::c.kp },⟨rfl,rfl,rfl,rfl,rfl,rfl,rfl,⟨[_],rfl⟩,⟨[w.heap.size],rfl,by simp,fun D hD=>?_⟩⟩,?_⟩
  ·simp at hD;subst hD
   exact ⟨xJ,fun o ho=>by have:=hkpw _ o ho;omega⟩
  have hgS:∀k,c.gp.S k→g.S k:=fun k hS=>hR.fr.sup k (.inr hS)
  obtain ⟨k1,k2,k3⟩:=b6y (c2:={ c with dfr:={ target:=.collected w.heap.size,args:=#[] }::c.dfr,kp:=(w.heap.size,.deferred (some []))::c.kp }) (w':=W.putObj (w.heap.size+1) o) hh hf hd (by rw [hcJ]) (by rw [hcJ]) (by rw [hcJ])
   (fun k hS=>hsupJ hf k (hgS k hS)) (fun id o1 ho=>(hR.fr.par id o1 ho).trans (by
    obtain ⟨o2,h2⟩:=(a8y (H0:=c.H0) (pins:=pins) (id:=id)).2 (.inr ⟨o1,ho⟩)
    have:=hparJ hf cs st pe id o2 (by rw [hcJ];exact h2)
    rw [hcJ] at this;exact this)) rfl rfl rfl (by simp) (fun k _ hk=>World.putObj_heap_other ((hfree cs st pe k).1 hk).1)
   (fun k _ _ hk o1 ho=>by
    obtain ⟨_,e2,_,e3⟩:=(hfree cs st pe k).1 hk
    rcases w4.1 ho with e|ho
    ·cases e;exact e2 rfl
    ·exact e3 o1 ho)
  have hkS:a1o g.S w (W.putObj (w.heap.size+1) o):=fun k hS=>(k3 k (hsupJ hf k hS)).trans (by have:=hd.2.2;rw [hcJ] at this;exact this k hS)
  refine ⟨hR.size,⟨by rw [hR.dfr.1];rfl,fun k o1 ho=>?_,fun k hS=>(hkS k (hgS k hS)).trans (hR.dfr.2.2 k hS)⟩,fun t x hx=>?_,k1,k2⟩
  ·have hne:k≠w.heap.size+1:=by
    rcases w4.1 ho with e|ho'
    ·cases e;omega
    ·have:=hkpw k o1 ho';omega
   have:=hd.2.1 k o1 (by rw [hcJ];exact xD _ (hkp2 cs k o1 ho))
   refine ⟨?_,(World.putObj_heap_other hne).trans this.2⟩
   have h0:=this.1
   rw [hcJ] at h0;exact h0
  ·obtain ⟨q1,q2⟩:=hR.env t x hx
   refine ⟨q1,q2.mono hkS (hsupJ hf) fun id hid=>?_⟩
   obtain ⟨o2,h2⟩:=(a8y (H0:=c.H0) (pins:=pins) (id:=id)).2 (.inl (a2b (b03 hpin hx) hid))
   have:=hparJ hf cs st pe id o2 (by rw [hcJ];exact h2)
   rw [hcJ] at this;exact this
 obtain ⟨cs0,hcs0⟩:∃cs0:Nat→Obj,cs0=fun k=>(W1.heap[k]?).getD (.deferred none):=⟨_,rfl⟩
 have h0:J 0 W1:=by
  rw [hJ]
  have hR0:a2l P g w (I 0 x0)∧Frm c g w (I 0 x0):=by
   have:=hR.subSt hs0
   exact ⟨this.hp,this.fr⟩
  have hnb:∀k,(g.S k∨d4h g (I 0 x0) k)→k∉bl:=fun k hk hb=>by
   rcases hk with hk|⟨id,o,h1,h2,rfl⟩
   ·exact (hblw k hb).2.2.2 hk
   ·obtain ⟨id',o',h3,h4,h5⟩:=(hbl _).1 hb
    have e:=hR.hp.inj id' id o' o (a6l hsc.2.2 h3) (a6l hs0.2.2 h1) h4 h2 h5
    subst e
    have:=hdis (id',o') (b63 h3)
    rw [h1] at this;cases this
  obtain ⟨k1,k2,k3⟩:=b6y (c2:=cJ cs0 .ready none) (w':=W1) hR0.1 hR0.2 hR.dfr (by rw [hcJ]) (by rw [hcJ]) (by rw [hcJ]) (fun k hS=>by rw [hcJ] at hS;exact hS) (fun id o _=>by rw [hcJ];exact Gh.agree.refl g id) (by rw [←hW1];rfl) (by rw [←hW1];rfl) (by rw [←hW1];rfl) (by omega)
   (fun k hk _=>hO1 k hk) (fun k hk hb hf=>(hfree _ _ _ k).2 ⟨by omega,by omega,hnb k hb,hf⟩)
  refine ⟨cs0,g,x0,hp0,hs0.1,k1,k2,by rw [hcJ],fun k o ho=>?_,fun k hS=>?_⟩
  ·rw [hcJ] at ho
   have hle:=hR.fr.size
   rcases w4.1 ho with e|ho
   ·cases e;exact ⟨.inl (by rw [hcJ];show c.w0.heap.size≤_;omega),hL1⟩
   rcases w4.1 ho with e|ho
   ·cases e;exact ⟨.inl (by rw [hcJ];exact hle),hK1⟩
   rcases wN.1 ho with ho|ho
   ·obtain ⟨q,hq,e⟩:=vG.1 ho
    cases e
    have hlt:=(hblw k hq).1
    refine ⟨by rw [hcJ];exact (hblw k hq).2.2.1,?_⟩
    have hlt':k<W1.heap.size:=by omega
    simp only [hcs0,zI hlt',xY]
   ·refine ⟨by rw [hcJ];exact (hR.dfr.2.1 k o ho).1,(hO1 k (hkpw k o ho)).trans (hR.dfr.2.1 k o ho).2⟩
  ·rw [hcJ] at hS ⊢;exact k3 k hS
 have hHR1:a2l P g W1 Hc∧a1o g.S w W1:=by
  have:=a2l.other (w':=W1) hRc.hp hRc.fr (by omega) fun k hk _=>hO1 k hk
  exact this
 have pinag:∀{cs st pe gb W HH},Frm (cJ cs st pe) gb W HH→∀t x,find t σ.env=some x→∀id,x.has id=true→g.agree gb id:=fun hf t x hx id hid=>by
  obtain ⟨o2,h2⟩:=(a8y (H0:=c.H0) (pins:=pins) (id:=id)).2 (.inl (a2b (b03 hpin hx) hid))
  have:=hparJ hf cs0 .ready none id o2 (by rw [hcJ];exact h2)
  rw [hcJ] at this;exact this
 have recAt:∀{cs st pe W ds},Dfr (cJ cs st pe) W ds→W.heap[w.heap.size+1]?=some (.loop (rec st pe)):=fun hd=>(hd.2.1 _ _ (by rw [hcJ];exact xJ)).2
 have keepJ:∀{cs st pe W ds},Dfr (cJ cs st pe) W ds→a1o g.S w W:=fun hd=>by have:=hd.2.2;rw [hcJ] at this;exact this
 have rs:∀st pe st' pe',({ rec st pe with state:=st',pending:=pe' }:Loop)=rec st' pe':=fun _ _ _ _=>by rw [hrec]
 have rs1:∀st pe st',({ rec st pe with state:=st' }:Loop)=rec st' pe:=fun _ _ _=>by rw [hrec]
 refine ⟨w.heap.size+1,[{ target:=.collected w.heap.size,args:=#[] }],W1,{ target:=.fn (.func gf) lb,args:=#[.func (.yield (w.heap.size+1)) #[] #[]] },W1,gf,#[.func (.yield (w.heap.size+1)) #[] #[]]++lb,W1,?_,?_,fun _ _=>trivial,?_,fun hh=>by simp [WF,Fence.wide] at hh,?_⟩
 ·rw [←hW1,hrec];exact run_enterLoop_outer _ _ _ _ _
 ·simp only [resolve,ev]
  simp [Deferred.ofValue]
  rfl
 ·unfold callable at hcb
  split at hcb
  ·rename_i fn' hfn'
   simp only [wG,xX] at hcb
   have hnm:¬fn'.name = "runtime.NumGoroutine":=by simpa using hcb.1
   have hbb:¬fn'.body=none:=by intro h;rw [h] at hcb;simp at hcb
   simp [invoke,callFunc,hfn',hnm,hbb]
  ·cases hcb
 ·refine ((hit g W1 lb hHR1.1 hlb (fun i x hx=>(hvl i x hx).mono (g':=g) hHR1.2 (fun _ h=>h) fun _ _=>Gh.agree.refl _ _) (w.heap.size+1) J Jx ?_ ?_ ?_ h0).more (vJ _)).mono ?_
  ·intro k W W' hj hs
   rw [hJ] at hj ⊢
   obtain ⟨cs,gb,y,hp,hgd,hh,hf,hd⟩:=hj
   obtain ⟨cs',k1,k2,k3⟩:=still hh hf hd hs
   exact ⟨cs',gb,y,hp,hgd,k1,k2,k3⟩
  ·intro W W' hj hs
   rw [hJx] at hj ⊢
   obtain ⟨cs,gb,HH,jump,hj,hh,hf,hd⟩:=hj
   obtain ⟨cs',k1,k2,k3⟩:=still hh hf hd hs
   exact ⟨cs',gb,HH,jump,hj,k1,k2,k3⟩
  ·intro k xs W vals hxk hvs hvv hj
   rw [hJ] at hj
   obtain ⟨cs,gb,y,hp,hgd,hh,hf,hd⟩:=hj
   have hl:=recAt hd
   obtain ⟨hxl,hxw⟩:=hxs xs (xB hxk)
   have hy:=run_yield (P:=P) (args:=vals) hl (by rw [hrec];show vals.size=qs.size;rw [hvs,hxl,hps];simp)
   rw [hrec] at hy
   refine ⟨_,_,_,_,hy,roundIn_of_wpIn trivial ?_⟩
   have hE0:c4n c.nt gb W ac.tmps σ.env:=fun t x hx=>by
    obtain ⟨q1,q2⟩:=hR.env t x hx
    exact ⟨q1,q2.mono (keepJ hd) (hsupJ hf) (pinag hf t x hx)⟩
   obtain ⟨hE,hEs⟩:=hE0.puts (ps:=ps) (xs:=xs) (vs:=vals.toList) hR.size (c2g h3) (by simp [hvs]) (fun i x hx=>by
    have:=(hvv i x hx).mono (g':=gb) (fun _ _=>rfl) (hsupJ hf) fun id hid=>absurd (a2b (a2m.1 hxw x (xB hx)) hid) (by simp)
    simpa [zC] using this)
   have hfold:(qs.zip vals).foldl (fun t (q,v)=>t.setIfInBounds q v) ac.tmps=(ps.zip vals.toList).foldl (fun t (p,v)=>t.setIfInBounds p v) ac.tmps:=by
    rw [←Array.foldl_toList,Array.toList_zip,hps]
   have hRb:Rel P (cJ cs .ready none) gb ⟨b3t ps xs σ.env,I k y⟩ { tmps:=(qs.zip vals).foldl (fun t (q,v)=>t.setIfInBounds q v) ac.tmps,defers:=[] } W:=by
    refine ⟨?_,hd,?_,hh,hf⟩
    ·show ((qs.zip vals).foldl _ ac.tmps).size=_
     rw [hfold,hEs,hcJ]
    ·show c4n _ gb W ((qs.zip vals).foldl _ ac.tmps) _
     rw [hfold,hcJ];exact hE
   have hfacts:a90 (I k y):=by
    have:Rel P (cJ cs .ready none) gb ⟨[],I k y⟩ { tmps:=(qs.zip vals).foldl (fun t (q,v)=>t.setIfInBounds q v) ac.tmps,defers:=[] } W:=⟨hRb.size,hRb.dfr,fun _ _ h=>(by cases h),hh,hf⟩
    exact (this.factsSt hgd).2
   have hm:=round k y xs hxk hp hfacts
   have hH0:∀cs st pe,(cJ cs st pe).H0=b5o c.H0 pins:=fun _ _ _=>by rw [hcJ]
   have hnt:∀cs st pe,(cJ cs st pe).nt=c.nt:=fun _ _ _=>by rw [hcJ]
   rw [←hH0 cs .ready none] at hm
   refine ha (w.heap.size+1) h4 (c:=cJ cs .ready none) (a6k.of_nh (MC.flat_nh h4)) (fun _ _ h=>h) (by rw [hnt];exact h6) hRb hm (fun c1 σ1 g1 a1 w1 hl1 hk1 hr1=>?_) (fun _ _ _ _ _ _ _ h=>h.elim) (fun _ _ _ _ _ _ h=>h.elim)
   obtain ⟨f1,d1⟩:=b9q hl1 hr1.hp hr1.fr hr1.dfr
   have d1':Dfr (cJ cs .ready none) w1 []:=by rw [hcJ] at d1 ⊢;exact d1
   obtain ⟨t1,t2,t3,t4⟩:=turn .busy none hr1.hp f1 d1'
   refine ⟨_,run_beginRound (recAt d1') (by rw [hrec]),?_⟩
   rw [rs1]
   obtain ⟨c2,hc2⟩:∃c2:Ctx,c2={ cJ cs .busy none with dfr:=a1.defers }:=⟨_,rfl⟩
   have toJ:∀{gx Wx Hx ds},a2l P gx Wx Hx→Frm c2 gx Wx Hx→Dfr c2 Wx ds→Frm (cJ cs .busy none) gx Wx Hx∧Dfr (cJ cs .busy none) Wx []:=fun hh hf hd=>by
    rw [hc2] at hf hd
    exact ⟨⟨hf.os,hf.tape,hf.output,hf.size,hf.old,hf.own,hf.sup,hf.sub,hf.par⟩,⟨by rw [hcJ],hd.2⟩⟩
   have hR2:Rel P c2 g1 σ1 a1 (w1.putObj (w.heap.size+1) (.loop (rec .busy none))):=by
    rw [hc2]
    refine ⟨?_,⟨rfl,t3.2⟩,fun t x hx=>?_,t1,⟨t2.os,t2.tape,t2.output,t2.size,t2.old,t2.own,t2.sup,t2.sub,t2.par⟩⟩
    ·rw [hr1.size,hl1.nt,hnt];exact (hnt cs .busy none).symm
    ·obtain ⟨q1,q2⟩:=hr1.env t x hx
     refine ⟨?_,q2.mono (g':=g1) t4 (fun _ h=>h) fun _ _=>Gh.agree.refl _ _⟩
     rw [hl1.nt,hnt] at q1
     show t<(cJ cs .busy none).nt
     rw [hnt];exact q1
   have h20:c2.H0=b5o c.H0 pins:=by rw [hc2];exact hH0 cs .busy none
   have h2n:c2.nt=c.nt:=by rw [hc2];exact hnt cs .busy none
   rw [hH0,←h20] at hk1
   have leave:∀(jump:Code) {c3:Ctx} {σ3:St} {g3:Gh} {a3:Act} {w3:World},c2.le c3→Rel P c3 g3 σ3 a3 w3→((jump=Code.ret∧R ⟨σ.env,σ3.heap⟩)∨∃i,jump=Code.exit i∧X i ⟨σ.env,σ3.heap⟩) →
     ∃v w',(Instr.endRound (w.heap.size+1) (some jump)).run P w3=.ok v w'∧((Ending.returned v=.returned (.bool true)∧J (k+1) w'∧d4l g Hc W w')∨(Ending.returned v=.returned (.bool false)∧Jx w')):=by
    intro jump c3 σ3 g3 a3 w3 hl3 hr3 hj
    obtain ⟨f3,d3⟩:=b9q hl3 hr3.hp hr3.fr hr3.dfr
    obtain ⟨f3,d3⟩:=toJ hr3.hp f3 d3
    obtain ⟨t1,t2,t3,t4⟩:=turn .done (some jump) hr3.hp f3 d3
    have hrun:=run_endRound (P:=P) (some jump) (recAt d3)
    simp only [Option.isNone_some,xN,if_false,rs] at hrun
    refine ⟨_,_,hrun,.inr ⟨rfl,?_⟩⟩
    rw [hJx]
    exact ⟨cs,g3,σ3.heap,jump,hj,t1,t2,t3⟩
   refine hb (w.heap.size+1) h5 (c:=c2) (a6k.of_nh (MC.flat_nh h5)) (fun _ _ h=>h) (by rw [h2n];exact h7) hR2 hk1 (fun c3 σ3 g3 a3 w3 hl3 hk3 hr3=>?_) (fun c3 i σ3 g3 a3 w3 hl3 hk3 hr3=>?_) (fun c3 σ3 g3 a3 w3 hl3 hk3 hr3=>?_)
   ·have hk3:=Lk.out hk3
    rw [←hl3.H0] at hk3
    obtain ⟨g4,σ4,⟨y',hp',hs'⟩,hr4⟩:=a6q hk3 hr3
    have hr4:=hr4.subSt hs'
    obtain ⟨f3,d3⟩:=b9q hl3 hr4.hp hr4.fr hr4.dfr
    obtain ⟨f3,d3⟩:=toJ hr4.hp f3 d3
    obtain ⟨t1,t2,t3,t4⟩:=turn .ready none hr4.hp f3 d3
    have hrun:=run_endRound (P:=P) none (recAt d3)
    simp only [Option.isNone_none,if_true,rs] at hrun
    refine ⟨_,_,hrun,.inl ⟨rfl,?_,fun q hS=>(keepJ t3 q hS).trans (keepJ hd q hS).symm,?_⟩⟩
    ·rw [hJ];exact ⟨cs,g4,y',hp',hs'.1,t1,t2,t3⟩
    ·intro q hq
     have hm:∀st pe,(q,cs q)∈(cJ cs st pe).kp:=fun st pe=>by
      rw [hcJ];exact xD _ (xD _ (List.mem_append_left _ (vG.2 ⟨q,(hbl q).2 hq,rfl⟩)))
     rw [(t3.2.1 q _ (hm _ _)).2,(hd.2.1 q _ (hm _ _)).2]
   ·exact leave (.exit i) hl3 hr3 (.inr ⟨i,rfl,hk3⟩)
   ·exact leave .ret hl3 hr3 (.inl ⟨rfl,hk3⟩)
  ·rintro e W' ⟨⟨v,rfl⟩,hj|hj⟩
   ·rw [hJ] at hj
    obtain ⟨cs,gb,y,hp,hgd,hh,hf,hd⟩:=hj
    obtain ⟨c2,hl2,hr2⟩:=fin (.loop { rec .ready none with state:=.exhausted }) hh hf hd
    exact ⟨none,_,by have:=run_endLoop (P:=P) (recAt hd) (by rw [hrec];simp);rw [hrec] at this ⊢;exact this,hK c2 _ _ _ _ hl2 (hdone y hp) hr2⟩
   ·rw [hJx] at hj
    obtain ⟨cs,gb,HH,jump,hj,hh,hf,hd⟩:=hj
    have hrun:=run_endLoop (P:=P) (recAt hd) (by rw [hrec];simp)
    have hpe:(rec .done (some jump)).pending=some jump:=by rw [hrec]
    rw [hpe] at hrun
    obtain ⟨oo,hrun⟩:∃oo,(Instr.endLoop (w.heap.size+1)).run P W'=.ok (some jump) (W'.putObj (w.heap.size+1) oo):=⟨_,hrun⟩
    obtain ⟨c2,hl2,hr2⟩:=fin oo hh hf hd
    refine ⟨some jump,_,hrun,?_⟩
    rcases hj with ⟨rfl,hj⟩|⟨i,rfl,hj⟩
    ·exact wpIn_ret (hT c2 _ _ _ _ hl2 hj hr2)
    ·exact wpIn_exit (hX c2 i _ _ _ _ hl2 hj hr2)
theorem MC.sound {r:Option Nat}:∀(mc:MC),(r=none∨mc.flat=true)→d3h P r mc
 | .skip,_=>by
  intro n c code Q K X R g σ a w hN hQ hok hR h hK hX hT
  cases code<;>try (simp [MC.ok] at hok;done)
  exact wpIn_skip (hK c σ g a w (.refl c) h hR)
 | .ret,_=>by
  intro n c code Q K X R g σ a w hN hQ hok hR h hK hX hT
  cases code<;>try (simp [MC.ok] at hok;done)
  exact wpIn_ret (hT c σ g a w (.refl c) h hR)
 | .exit i,_=>by
  intro n c code Q K X R g σ a w hN hQ hok hR h hK hX hT
  cases code<;>try (simp [MC.ok] at hok;done)
  have e:=zR hok;subst e
  exact wpIn_exit (hX c i σ g a w (.refl c) h hR)
 | .reg ms,_=>by
  intro n c code Q K X R g σ a w hN hQ hok hR h hK hX hT
  cases code<;>try (simp [MC.ok] at hok;done)
  simp only [MC.ok,wG,xX] at hok
  obtain ⟨⟨h1,h0⟩,h2⟩:=hok
  subst h1
  exact c66 h0 hQ (hK c · · · · (.refl c)) h2 hR h
 | .regI ms,_=>by
  intro n c code Q K X R g σ a w hN hQ hok hR h hK hX hT
  cases code<;>try (simp [MC.ok] at hok;done)
  simp only [MC.ok,wG,xX] at hok
  obtain ⟨⟨h1,h0⟩,h2⟩:=hok
  subst h1
  exact c3c h0 hQ (hK c · · · · (.refl c)) h2 hR h
 | .regD ms aft anc,_=>by
  intro n c code Q K X R g σ a w hN hQ hok hR h hK hX hT
  cases code<;>try (simp [MC.ok] at hok;done)
  simp only [MC.ok,wG] at hok
  obtain ⟨⟨⟨⟨⟨⟨h1,h0⟩,h2⟩,h3⟩,h4⟩,h5⟩,h6⟩:=hok
  subst h1
  exact c3d h0 hQ h2 (hK c · · · · (.refl c)) h3 h4 h5 h6 hR h
 | .seq x y,hf=>by
  intro n c code Q K X R g σ a w hN hQ hok hR h hK hX hT
  cases code<;>try (simp [MC.ok] at hok;done)
  simp only [MC.ok,wG] at hok
  simp only [MC.flat,wG] at hf
  refine wpIn_seq (MC.sound x (hf.imp id And.left) (Q:=Exit.then _ Q) hN.1 hQ hok.1 hR h (fun c' σ g a w hl hk hr=>?_) hX hT)
  rw [←hl.nt] at hok
  rw [←hl.H0] at hk
  exact MC.sound y (hf.imp id And.right) (hN.2.mono hl) hQ hok.2 hr hk (fun c2 σ g a w hl2=>hK c2 σ g a w (hl.trans hl2)) (fun c2 i σ g a w hl2=>hX c2 i σ g a w (hl.trans hl2)) (fun c2 σ g a w hl2=>hT c2 σ g a w (hl.trans hl2))
 | .cut x y,hf=>by
  intro n c code Q K X R g σ a w hN hQ hok hR h hK hX hT
  cases code<;>try (simp [MC.ok] at hok;done)
  simp only [MC.ok,wG] at hok
  simp only [MC.flat,wG] at hf
  obtain ⟨α,I,p,ns,h1,h2⟩:=Lk.out h
  refine wpIn_seq (MC.sound x (hf.imp id And.left) (Q:=Exit.then _ Q) hN.1 hQ hok.1 hR h1 (fun c' σ g a w hl hk hr=>?_) hX hT)
  have hk:=Lk.out hk
  rw [←hl.H0] at hk
  obtain ⟨g,σ,⟨z,hz,hs⟩,hr⟩:=a6q hk hr
  have hr':=hr.subSt hs
  have h3:=h2 z hz (hr'.factsSt hs.1)
  rw [←hl.nt] at hok
  rw [←hl.H0] at h3
  exact MC.sound y (hf.imp id And.right) (hN.2.mono hl) hQ hok.2 hr' h3 (fun c2 σ g a w hl2=>hK c2 σ g a w (hl.trans hl2)) (fun c2 i σ g a w hl2=>hX c2 i σ g a w (hl.trans hl2)) (fun c2 σ g a w hl2=>hT c2 σ g a w (hl.trans hl2))
 | .cond x t e,hf=>by
  intro n c code Q K X R g σ a w hN hQ hok hR h hK hX hT
  cases code<;>try (simp [MC.ok] at hok;done)
  simp only [MC.ok,wG] at hok
  simp only [MC.flat,wG] at hf
  simp only [MWP] at h
  split at h
  case h_2=>exact h.elim
  rename_i b hb
  have hv:=Opd.vr hR hok.1.1
  rw [hb] at hv
  obtain ⟨h1,h2⟩:=h
  cases b with
  | true =>
   have h1:=h1 rfl
   rw [b80 hR hb] at h1
   exact wpIn_cond_true hv.bool_inv (MC.sound t (hf.imp id And.left) hN.1 hQ hok.1.2 hR h1 hK hX hT)
  | false =>
   have h2:=h2 rfl
   rw [b80 hR hb] at h2
   exact wpIn_cond_false hv.bool_inv (MC.sound e (hf.imp id And.right) hN.2 hQ hok.2 hR h2 hK hX hT)
 | .block i b,hf=>by
  intro n c code Q K X R g σ a w hN hQ hok hR h hK hX hT
  cases code<;>try (simp [MC.ok] at hok;done)
  simp only [MC.ok,wG] at hok
  have e:=zR hok.1;subst e
  refine wpIn_block (MC.sound b hf (Q:=Exit.inBlock i Q) hN hQ hok.2 hR h hK (fun c' j σ g a w hl hx hr=>?_) hT)
  simp only [Exit.inBlock]
  cases hb:Nat.beq j i with
  | true =>
   have e:=zR hb;subst e
   rw [hb] at hx
   simp only [if_true]
   exact hK c' σ g a w hl hx hr
  | false =>
   rw [hb] at hx
   have:j≠i:=fun e=>by rw [e,vE] at hb;cases hb
   simp only [this,if_false]
   exact hX c' j σ g a w hl hx hr
 | .loop b,hf=>by
  intro n c code Q K X R g σ a w hN hQ hok hR h hK hX hT
  cases code<;>try (simp [MC.ok] at hok;done)
  simp only [MC.ok] at hok
  obtain ⟨α,I,p,μ,ns,h0,round⟩:=Lk.out h
  obtain ⟨g,σ,⟨x0,hp0,hs0⟩,hR⟩:=a6q h0 hR
  refine wpIn_loop' (fun x a w=>p x∧(I x).good=true∧∃c' g,c.le c'∧Rel P c' g (I x) a w) μ ⟨x0,hp0,hs0.1,c,g,.refl c,hR.subSt hs0⟩ ?_
  rintro x a w ⟨hp,hg,c',g,hl,hr⟩
  have h1:=round x hp (hr.factsSt hg)
  rw [←hl.nt] at hok
  rw [←hl.H0] at h1
  refine MC.sound b hf (Q:=Exit.then _ Q) (a6k.mono (mc:=b) hl hN) hQ hok hr h1 (fun c2 σ g a w hl2 hk hr=>?_) (fun c2 i σ g a w hl2=>hX c2 i σ g a w (hl.trans hl2)) (fun c2 σ g a w hl2=>hT c2 σ g a w (hl.trans hl2))
  have hk:=Lk.out hk
  rw [←hl2.H0] at hk
  obtain ⟨g,σ,⟨y,hy,hlt,hs⟩,hr⟩:=a6q hk hr
  exact ⟨y,⟨hy,hs.1,c2,g,hl.trans hl2,hr.subSt hs⟩,hlt⟩
 | .note m b,hf=>by
  intro n c code Q K X R g σ a w hN hQ hok hR h hK hX hT
  have hok':b.ok P c.nt code=true:=by
   unfold MC.ok at hok;exact hok
  obtain ⟨g',σ',h',hR'⟩:=a9p h hR
  exact MC.sound b hf hN hQ hok' hR' h' hK hX hT
 | .hnote T b,hf=>by
  intro n c code Q K X R g σ a w hN hQ hok hR h hK hX hT
  have hok':b.ok P c.nt code=true:=by
   unfold MC.ok at hok;exact hok
  obtain ⟨g',σ',h',hR'⟩:=hN.1 _ c g σ a w (.refl c) hR h
  exact MC.sound b (.inl (hf.resolve_right (by simp [MC.flat]))) hN.2 hQ hok' hR' h' hK hX hT
 | .no,_=>by
  intro n c code Q K X R g σ a w hN hQ hok hR h hK hX hT
  exact h.elim
 | .rngF s ps a b,hf=>by
  have hr:r=none:=hf.resolve_right (by simp [MC.flat])
  subst hr
  exact c33 s ps a b (fun l hl=>MC.sound (r:=some l) a (.inr hl)) (fun l hl=>MC.sound (r:=some l) b (.inr hl))
end
def sel:List Nat→Heap→Heap
 | [],_=>[]
 | n::r,H=>match find n H with
  | some o=>(n,o)::sel r H
  | none=>sel r H
def c2v:List Nat→Heap→Bool
 | [],_=>true
 | n::r,H=>a0i n H&&!mem n r&&c2v r H
def a0c.within (l:List Nat):a0c→Bool
 | .cells cs _=>V.withinL l cs
 | .nmap z _ _ _=>mem z l
 | _=>true
def a9i (l:List Nat):Heap→Bool
 | []=>true
 | (_,o)::r=>o.within l&&a9i l r
def a4d:Nat→List V→List (Nat×V)
 | _,[]=>[]
 | n,x::r=>(n,x)::a4d (n+1) r
inductive RS where
 | t (s:Nat)
 | c (s:Nat) (n:Option Nat)
def a8f (σ:St):List RS→(List V→Prop)→Prop
 | [],K=>K []
 | .t s::r,K=>a8f σ r fun vs=>K (get s σ.env::vs)
 | .c s n::r,K=>sLd n (get s σ.env) (fun id=>find id σ.heap) (fun x=>a8f σ r fun vs=>K (x::vs)) (fun x=>a8f σ r fun vs=>K (x::vs))
def f4m:List V→V
 | [x]=>x
 | xs=>.tup xs
def a5n (P:Program):List RS→List ResultVar→Bool
 | [],[]=>true
 | .t s::r,.tmp t::q=>Nat.beq s t&&a5n P r q
 | .c s n::r,.cell t ty::q=>Nat.beq s t&&decide (c2h P ty=some n)&&a5n P r q
 | _,_=>false
def f5b (rids:List Nat) (Q:V→Heap→Prop) (σ:St) (v:V):Prop :=
 bif c2v rids σ.heap&&v.within rids&&a9i rids (sel rids σ.heap) then Q v (sel rids σ.heap) else False
def f0l (rids:List Nat) (rs:List RS) (Q:V→Heap→Prop) (σ:St):Prop:=a8f σ rs fun vs=>f5b rids Q σ (f4m vs)
def a1r (H0:Heap) (ns:List a3l) (rids:List Nat) (rs:List RS) (Q:V→Heap→Prop) (σ:St):Prop:=a0g H0 ns σ (f0l rids rs Q)
section
variable {P:Program}
theorem a5d {n:Nat} {o:a0c}:∀{l:List Nat} {H:Heap},find n (sel l H)=some o→n∈l∧find n H=some o
 | [],_,h=>by cases h
 | m::r,H,h=>by
  simp only [sel] at h
  cases hm:find m H with
  | none =>
   rw [hm] at h
   obtain ⟨h1,h2⟩:=a5d (l:=r) h
   exact ⟨xD _ h1,h2⟩
  | some o' =>
   rw [hm] at h
   simp only [find] at h
   cases hb:Nat.beq n m with
   | true =>
    rw [hb] at h;cases h
    have e:=zR hb;subst e
    exact ⟨xJ,hm⟩
   | false =>
    rw [hb] at h
    obtain ⟨h1,h2⟩:=a5d (l:=r) h
    exact ⟨xD _ h1,h2⟩
theorem c0q {n:Nat}:∀{l:List Nat} {H:Heap},c2v l H=true→n∈l→∃o,find n (sel l H)=some o
 | m::r,H,h,hm=>by
  simp only [c2v,wG] at h
  obtain ⟨⟨h1,h2⟩,h3⟩:=h
  obtain ⟨o,ho⟩:=a2q.1 h1
  simp only [sel,ho,find]
  cases hb:Nat.beq n m with
  | true=>exact ⟨o,rfl⟩
  | false =>
   rcases w4.1 hm with e|hm
   ·rw [e,vE] at hb;cases hb
   ·exact c0q h3 hm
theorem b07 {l:List Nat} {n:Nat} {o:a0c}:∀{H:Heap},a9i l H=true→find n H=some o→o.within l=true
 | (m,y)::r,h,hf=>by
  simp only [a9i,wG] at h
  simp only [find] at hf
  cases hb:Nat.beq n m with
  | true=>rw [hb] at hf;cases hf;exact h.1
  | false=>rw [hb] at hf;exact b07 h.2 hf
theorem b3u {l:List Nat} {id:Nat} {o:a0c} (h:o.within l=true) (hh:o.has id=true):id∈l:=by
 cases o with
 | cells cs ty =>
  simp only [a0c.within,a0c.has] at h hh
  obtain ⟨x,hx,hxh⟩:=a8p.1 hh
  exact a2b (a2m.1 h x hx) hxh
 | nmap z k kd es =>
  simp only [a0c.within,a0c.has] at h hh
  rw [zR hh];exact mem_iff.1 h
 | _=>simp [a0c.has] at hh
theorem b4s {s:Nat} {x:V}:∀{l:List V} {n:Nat},find s (a4d n l)=some x→n≤s∧l[s - n]?=some x
 | [],_,h=>by cases h
 | y::r,n,h=>by
  simp only [a4d,find] at h
  cases hb:Nat.beq s n with
  | true =>
   rw [hb] at h;cases h
   have e:=zR hb;subst e
   exact ⟨vL _,by simp⟩
  | false =>
   rw [hb] at h
   obtain ⟨h1,h2⟩:=b4s (l:=r) h
   have e:s - n=(s - (n+1))+1:=by omega
   exact ⟨by omega,by rw [e];exact h2⟩
open Classical in
noncomputable def Gh.mix (g g':Gh) (l:List Nat):Gh :=
 ⟨g'.S,fun i=>if i∈l then g'.ρ i else g.ρ i,fun i=>if i∈l then g'.base i else g.base i,fun i=>if i∈l then g'.cap i else g.cap i,fun i=>if i∈l then g'.nil i else g.nil i⟩
theorem b0i {g g':Gh} {l:List Nat} {i:Nat} (h:i∈l):g'.agree (g.mix g' l) i:=by simp [Gh.agree,Gh.mix,h]
theorem c6j {g g':Gh} {l:List Nat} {i:Nat} (h:i∉l):g.agree (g.mix g' l) i:=by simp [Gh.agree,Gh.mix,h]
theorem d47 {c:Ctx} {g:Gh} {σ:St} {a:Act} {w:World} (hR:Rel P c g σ a w) (s:Nat):VR g w (a.tmps.getD s undef) (get s σ.env):=by
 rw [a1m]
 cases hf:find s σ.env with
 | none=>exact .any _
 | some x=>exact (hR.env s x hf).2
theorem a9l {c:Ctx} {g:Gh} {σ:St} {a:Act} {w:World} (hR:Rel P c g σ a w) {F:ResultVar→Sem Value} (hF:∀t,F (.tmp t)=pure (a.tmps.getD t undef))
  (hG:∀t ty ad u,a.tmps.getD t undef=.pointer (some ad)→(loadVar ty ad).run P w=.ok u w→(F (.cell t ty)).run P w=.ok u w) :
  ∀{rs:List RS} {q:List ResultVar} {K:List V→Prop},a5n P rs q=true→a8f σ rs K→∃us vs,(q.mapM F).run P w=.ok us w∧us.length=vs.length∧(∀(i:Nat) (x:V),vs[i]?=some x→VR g w (us.toArray.getD i undef) x)∧K vs
 | [],[],K,_,h=>⟨[],[],by simp,rfl,fun i x hx=>by simp at hx,h⟩
 | .t s::r,.tmp t::q,K,hok,h=>by
  simp only [a5n,wG] at hok
  have e:=zR hok.1;subst e
  obtain ⟨us,vs,h1,h2,h3,h4⟩:=a9l hR hF hG hok.2 h
  refine ⟨a.tmps.getD s undef::us,get s σ.env::vs,?_,by simp [h2],fun i x hx=>?_,h4⟩
  ·simp only [List.mapM_cons,vB,hF,vA,xP,h1]
  ·cases i with
   | zero=>simp at hx;subst hx;simpa using d47 hR s
   | succ i=>simp at hx;simpa [zC] using h3 i x hx
 | .c s n::r,.cell t ty::q,K,hok,h=>by
  simp only [a5n,wG,xO] at hok
  have e:=zR hok.1.1;subst e
  obtain ⟨ad,u,z,e1,e2,e3,e4⟩:=d45 hok.1.2 hR.hp (fun _ _ h=>h) (d47 hR s) h
  have e3:a8f σ r fun vs=>K (z::vs):=by rcases e3 with e3|e3<;>exact e3
  obtain ⟨us,vs,h1,h2,h3,h4⟩:=a9l hR hF hG hok.2 e3
  refine ⟨u::us,z::vs,?_,by simp [h2],fun i x hx=>?_,h4⟩
  ·simp only [List.mapM_cons,vB,hG s ty ad u e1 e2,vA,xP,h1]
  ·cases i with
   | zero=>simp at hx;subst hx;simpa using e4
   | succ i=>simp at hx;simpa [zC] using h3 i x hx
 | [],_::_,K,hok,h=>by simp [a5n] at hok
 | .t _::_,[],K,hok,h=>by simp [a5n] at hok
 | .c _ _::_,[],K,hok,h=>by simp [a5n] at hok
 | .t _::_,.cell _ _::_,K,hok,h=>by simp [a5n] at hok
 | .c _ _::_,.tmp _::_,K,hok,h=>by simp [a5n] at hok
theorem b9b {c:Ctx} {g:Gh} {σ:St} {a:Act} {w:World} {l:List ResultVar} {rs:List RS} (hR:Rel P c g σ a w) (hok:a5n P rs l=true) {K:V→Prop} (h:a8f σ rs fun vs=>K (f4m vs)) {F:ResultVar→Sem Value}
  (hF:∀t,F (.tmp t)=pure (a.tmps.getD t undef)) (hG:∀t ty ad u,a.tmps.getD t undef=.pointer (some ad)→(loadVar ty ad).run P w=.ok u w→(F (.cell t ty)).run P w=.ok u w) :
  ∃v x,((((l.mapM F).run P w).andThen fun a w'=>.ok a.toArray w').andThen fun a w'=>(pure (if h:a.size=1 then a[0] else Value.tuple a):Sem Value).run P w')=.ok v w∧VR g w v x∧K x:=by
 obtain ⟨us,vs,h1,h2,h3,h4⟩:=a9l hR hF hG hok h
 rw [h1]
 match us,vs with
 | [u],[x]=>exact ⟨u,x,by simp,by simpa using h3 0 x rfl,h4⟩
 | [],[]=>exact ⟨.tuple #[],.tup [],by simp,.tup _ _ rfl fun i x hx=>by simp at hx,h4⟩
 | u1::u2::ur,x1::x2::xr=>exact ⟨.tuple (u1::u2::ur).toArray,.tup (x1::x2::xr),by simp,.tup _ _ (by simpa using h2) h3,h4⟩
 | [],_::_=>simp at h2
 | [_],[]=>simp at h2
 | [_],_::_::_=>simp at h2
 | _::_::_,[]=>simp at h2
 | _::_::_,[_]=>simp at h2
theorem b9a {c:Ctx} {g:Gh} {σ:St} {a:Act} {w:World} {fn:Func} {rs:List RS} (hR:Rel P c g σ a w) (hok:a5n P rs fn.results.toList=true) {K:V→Prop} (h:a8f σ rs fun vs=>K (f4m vs)) :
  ∃v x,(results fn a.tmps).run P w=.ok v w∧VR g w v x∧K x:=by
 unfold results
 rw [Array.mapM_eq_mapM_toList]
 simp only [vB,Sem.run_map]
 exact b9b hR hok h (fun t=>rfl) (fun t ty ad u e1 e2=>by simp [e1,asAddr,e2])
theorem e93 {g:Gh} {w:World} {H:Heap} {nt:Nat} {g':Gh} {σ:St} {a:Act} {w':World} {rids:List Nat} {x:V} {Q:V→Heap→Prop} {v:Value} (hR:Rel P ⟨w,g,H,nt,[],[],H,g,w⟩ g' σ a w')
  (hv:VR g' w' v x) (h:f5b rids Q σ x):∃r H' g'',Q r H'∧a2l P g'' w' H'∧VR g'' w' v r∧Frm ⟨w,g,H,0,[],[],H,g,w⟩ g'' w' H'∧(∀id,find id H'=none→g.agree g'' id):=by
 unfold f5b at h
 cases hc:c2v rids σ.heap&&x.within rids&&a9i rids (sel rids σ.heap) with
 | false=>rw [hc] at h;exact h.elim
 | true =>
  rw [hc] at h
  simp only [wG] at hc
  obtain ⟨⟨h1,h2⟩,h3⟩:=hc
  have hk:a1o g'.S w' w':=fun _ _=>rfl
  have hs:∀b,g'.S b→(g.mix g' rids).S b:=fun _ h=>h
  refine ⟨_,_,g.mix g' rids,h,⟨fun id o ho=>?_,fun i j o o' hi hj hni hnj he=>?_,fun id o ho hn hS=>?_,hR.hp.lt,hR.hp.tabs⟩,hv.mono hk hs fun id hid=>b0i (a2b h2 hid),
   ⟨hR.fr.os,hR.fr.tape,hR.fr.output,hR.fr.size,hR.fr.old,fun id o ho hn=>?_,hR.fr.sup,hR.fr.sub,fun id o ho=>?_⟩,fun id hid=>?_⟩
  ·obtain ⟨k1,k2⟩:=a5d ho
   exact (hR.hp.obj id o k2).mono hk hs (b0i k1) (fun _=>rfl) (fun n hn=>b0i (b3u (b07 h3 ho) hn)) (vL _)
  ·obtain ⟨k1,k2⟩:=a5d hi
   obtain ⟨k3,k4⟩:=a5d hj
   obtain ⟨e1,_,_,e2⟩:=b0i (g:=g) (g':=g') k1
   obtain ⟨e3,_,_,e4⟩:=b0i (g:=g) (g':=g') k3
   exact hR.hp.inj i j o o' k2 k4 (fun h=>hni (e2.2 h)) (fun h=>hnj (e4.2 h)) (by rw [←e1,←e3];exact he)
  ·obtain ⟨k1,k2⟩:=a5d ho
   obtain ⟨e1,_,_,e2⟩:=b0i (g:=g) (g':=g') k1
   rw [e1] at hS
   exact hR.hp.sep id o k2 (fun h=>hn (e2.2 h)) hS
  ·obtain ⟨k1,k2⟩:=a5d ho
   obtain ⟨e1,_,_,e2⟩:=b0i (g:=g) (g':=g') k1
   rw [e1]
   exact hR.fr.own id o k2 fun h=>hn (e2.2 h)
  ·by_cases hm:id∈rids
   ·exact (hR.fr.par id o ho).trans (b0i hm)
   ·exact c6j hm
  ·by_cases hm:id∈rids
   ·obtain ⟨o,ho⟩:=c0q h1 hm
    rw [ho] at hid;cases hid
   ·exact c6j hm
def shutAll:List Nat→World→World
 | [],w=>w
 | D::r,w=>shutAll r (w.putObj D (.deferred none))
theorem a7z:∀(Ds:List Nat) (w:World),(shutAll Ds w).os=w.os∧(shutAll Ds w).tape=w.tape∧(shutAll Ds w).output=w.output∧(shutAll Ds w).heap.size=w.heap.size∧∀b,b∉Ds→(shutAll Ds w).heap[b]?=w.heap[b]?
 | [],w=>⟨rfl,rfl,rfl,rfl,fun _ _=>rfl⟩
 | D::r,w=>by
  obtain ⟨h1,h2,h3,h4,h5⟩:=a7z r (w.putObj D (.deferred none))
  exact ⟨h1,h2,h3,h4.trans (by simp),fun b hb=>(h5 b fun h=>hb (xD _ h)).trans (World.putObj_heap_other fun e=>hb (e▸xJ))⟩
theorem b0j {F:Fence} {n:Nat} {fn:Func} {tmps:Array Value} {R:Ending→World→Prop}:∀(Ds:List Nat) (w:World),Ds.Nodup→(∀D∈Ds,w.heap[D]?=some (.deferred (some [])))→LeavesIn F n P fn tmps R [] .returning (shutAll Ds w) →
  LeavesInM F n P fn tmps R (Ds.map fun D=>{ target:=.collected D,args:=#[] }) .returning w
 | [],w,_,_,h=>h
 | D::r,w,hn,hd,h=>by
  obtain ⟨h1,h2⟩:=List.nodup_cons.1 hn
  refine ⟨by simp,.inl ⟨D,w.putObj D (.deferred none),rfl,run_takeDeferred (hd D xJ),b0j r _ h2 (fun E hE=>?_) h⟩⟩
  exact (World.putObj_heap_other fun e=>by subst e;exact h1 hE).trans (hd E (xD _ hE))
theorem d2w {f:Nat} {fn:Func} {code:Code} {mc:MC} {args:List V} {H:Heap} {Q:V→Heap→Prop} {g:Gh} {w:World} {vals:Array Value} (ns:List a3l) (rids:List Nat) (rs:List RS) (hf:P.funcs[f]?=some fn) (hb:fn.body=some code)
  (hnh:a6k P ⟨w,g,H,fn.ntmps,[],[],H,g,w⟩ mc) (hok:mc.ok P fn.ntmps code=true) (hrs:a5n P rs fn.results.toList=true) (hn:Nat.ble args.length fn.ntmps=true) (hg:St.good ⟨a4d 0 args,H⟩=true)
  (h:factsSt ⟨a4d 0 args,H⟩→MWP P H mc (a1r H ns rids rs Q) (fun _ _=>False) (a1r H ns rids rs Q) ⟨a4d 0 args,H⟩) (hH:a2l P g w H) (hl:vals.size=args.length) (hv:∀(i:Nat) (x:V),args[i]?=some x→VR g w (vals.getD i undef) x) :
  Calls P f vals w fun e w'=>∃v r H' g',e=.returned v∧Q r H'∧a2l P g' w' H'∧VR g' w' v r∧Frm ⟨w,g,H,0,[],[],H,g,w⟩ g' w' H'∧(∀id,find id H'=none→g.agree g' id):=by
 refine b6a (r:=none) (n:=0) (callsIn_of_wp_marks hf hb trivial ?_)
 obtain ⟨c,hcd⟩:∃c:Ctx,c=⟨w,g,H,fn.ntmps,[],[],H,g,w⟩:=⟨_,rfl⟩
 have hR:Rel P c g ⟨a4d 0 args,H⟩ { tmps:=vals++Array.replicate (fn.ntmps - vals.size) undef,defers:=[] } w:=by
  rw [hcd]
  have hle:vals.size≤fn.ntmps:=by rw [hl];exact zQ hn
  refine ⟨by simp;omega,⟨rfl,fun _ _ h=>(by cases h),fun _ _=>rfl⟩,fun s x hx=>?_,hH,⟨rfl,rfl,rfl,vL _,fun _ _ _=>rfl,fun id o ho hn=>⟨.inr ⟨id,o,ho,hn,rfl⟩,fun _ h=>by cases h⟩,fun _ h=>h.elim id id,fun _ h=>⟨.inl h,fun _ h=>by cases h⟩,fun id _ _=>Gh.agree.refl g id⟩⟩
  obtain ⟨_,h2⟩:=b4s hx
  rw [Nat.sub_zero] at h2
  have hlt:s<vals.size:=by
   rw [hl];exact (zG.1 h2).1
  refine ⟨xH hlt hle,?_⟩
  have e:(vals++Array.replicate (fn.ntmps - vals.size) undef).getD s undef=vals.getD s undef:=by
   simp [zC,zY,hlt]
  rw [e]
  exact hv s x h2
 have fin:∀(c':Ctx) (σ:St) (g':Gh) (a:Act) (w':World),c.le c'→a1r H ns rids rs Q σ→Rel P c' g' σ a w' →
   LeavesInM (WF none) 0 P fn a.tmps (fun e w'=>∃v r H' g',e=.returned v∧Q r H'∧a2l P g' w' H'∧VR g' w' v r∧Frm ⟨w,g,H,0,[],[],H,g,w⟩ g' w' H'∧(∀id,find id H'=none→g.agree g' id)) a.defers .returning w':=by
  intro c' σ g' a w' hle hq hr
  obtain ⟨Ds,e1,e2,e3⟩:=hle.dfr
  have e4:a.defers=Ds.map fun D=>{ target:=.collected D,args:=#[] }:=by
   rw [hr.dfr.1,e1,hcd];simp
  rw [e4]
  refine b0j Ds w' e2 (fun D hD=>(hr.dfr.2.1 D _ (e3 D hD).1).2) ?_
  obtain ⟨s1,s2,s3,s4,s5⟩:=a7z Ds w'
  obtain ⟨k1,k2,k3⟩:=b6y (c2:=c) (w':=shutAll Ds w') hr.hp hr.fr hr.dfr hle.w0.symm hle.g0.symm hle.hm.symm (fun b hS=>hr.fr.sup b (.inr (by rw [hle.gp];exact hS))) (fun id o ho=>by
   have:=hr.fr.par id o (by rw [hle.H0];exact ho)
   rwa [hle.gp] at this) s1 s2 s3 (by rw [s4];exact vL _) (fun b _ hf=>s5 b fun hb=>hf _ (e3 b hb).1) (fun b _ _ _ o ho=>by rw [hcd] at ho;cases ho)
  have hr2:Rel P c g' σ { a with defers:=[] } (shutAll Ds w'):=by
   refine ⟨by rw [←hle.nt];exact hr.size,⟨by rw [hcd],fun b o ho=>(by rw [hcd] at ho;cases ho),fun b hS=>?_⟩,fun t x hx=>?_,k1,k2⟩
   ·refine (k3 b (hr.fr.sup b (.inr (by rw [hle.gp];exact hS)))).trans ?_
    have:=hr.dfr.2.2 b (by rw [hle.gp];exact hS)
    rwa [hle.wp] at this
   ·obtain ⟨q1,q2⟩:=hr.env t x hx
    exact ⟨by rw [←hle.nt];exact q1,q2.mono (g':=g') k3 (fun _ h=>h) fun _ _=>Gh.agree.refl _ _⟩
  have hH0:c.H0=H:=by rw [hcd]
  unfold a1r at hq
  rw [←hH0] at hq
  obtain ⟨g',σ,hq,hr⟩:=a6q hq hr2
  obtain ⟨v,x,h1,h2,h0⟩:=b9a hr hrs hq
  rw [hcd] at hr
  obtain ⟨r,H',g'',h3,h4,h5,h6,h7⟩:=e93 hr h2 h0
  exact ⟨v,h1,v,r,H',g'',rfl,h3,h4,h5,h6,h7⟩
 have hm:=h (hR.factsSt hg)
 have hH0:c.H0=H:=by rw [hcd]
 rw [←hH0] at hm
 rw [hH0] at hm
 refine MC.sound mc (.inl rfl) (c:=c) (K:=a1r H ns rids rs Q) (X:=fun _ _=>False) (R:=a1r H ns rids rs Q) (by rw [hcd];exact hnh) ?_ (by rw [hcd];exact hok) hR (by rw [hH0];exact hm) (fun c' σ g' a w' hle hq hr=>?_) (fun _ _ _ _ _ _ _ h=>h.elim) (fun c' σ g' a w' hle hq hr=>?_)
 ·rintro _ _ ⟨v,_,_,_,h,_⟩;cases h
 ·exact fin c' σ g' a w' hle hq hr
 ·exact fin c' σ g' a w' hle hq hr
theorem c8y {f:Nat} {fn:Func} {code:Code} {mc:MC} {args:List V} {H:Heap} {Q:V→Heap→Prop} (ns:List a3l) (rids:List Nat) (rs:List RS) (hf:P.funcs[f]?=some fn) (hb:fn.body=some code) (hc:callable P f=true)
  (hnh:mc.nh=true) (hok:mc.ok P fn.ntmps code=true) (hrs:a5n P rs fn.results.toList=true) (hn:Nat.ble args.length fn.ntmps=true) (hg:St.good ⟨a4d 0 args,H⟩=true)
  (h:factsSt ⟨a4d 0 args,H⟩→MWP P H mc (a1r H ns rids rs Q) (fun _ _=>False) (a1r H ns rids rs Q) ⟨a4d 0 args,H⟩):a0o P f args H Q :=
 ⟨hc,fun g w vals hH hl hv=>d2w ns rids rs hf hb (.of_nh hnh) hok hrs hn hg h hH hl hv⟩
end
structure Cfg where
 P:Program
 H0:Heap
 K:St→Prop
 X:Nat→St→Prop
 R:St→Prop
inductive Fr where
 | sq (b:MC)
 | bl (id:Nat)
 | it (its:List It)
mutual
def kN (c:Cfg):List Fr→St→Prop
 | [],σ=>c.K σ
 | .sq b::s,σ=>MWP c.P c.H0 b (kN c s) (kX c s) c.R σ
 | .bl _::s,σ=>kN c s σ
 | .it its::s,σ=>b8m c.P c.H0 its σ (kN c s)
def kX (c:Cfg):List Fr→Nat→St→Prop
 | [],i,σ=>c.X i σ
 | .sq _::s,i,σ=>kX c s i σ
 | .it _::s,i,σ=>kX c s i σ
 | .bl id::s,i,σ=>bif Nat.beq i id then kN c s σ else kX c s i σ
end
def a0m (K:Eff→Prop) (v:V):Prop:=K (evl v)
def a6z (K:Eff→Prop) (id:Nat) (o:a0c):Prop:=K (eup id o)
def go (c:Cfg) (m:MC) (s:List Fr) (σ:St):Prop:=MWP c.P c.H0 m (kN c s) (kX c s) c.R σ
def ops (c:Cfg) (ms:List MOp) (s:List Fr) (σ:St):Prop:=runN c.P c.H0 ms σ (kN c s)
def aft (c:Cfg) (d:Option Nat) (r:List MOp) (s:List Fr) (e:List (Nat×V)) (h:Heap) (f:Eff):Prop:=ops c r s (St.app ⟨e,h⟩ d f)
def lok (c:Cfg) (d:Option Nat) (r:List MOp) (s:List Fr) (e:List (Nat×V)) (h:Heap) (f:Eff):Prop:=aft c d r s e h f
def grpC (c:Cfg) (ms:List MOp) (its:List It) (s:List Fr) (σ:St):Prop :=
 Lk (∃(α:Type) (I:α→St) (p:α→Prop),runN c.P c.H0 ms σ (fun σ'=>Lk (∃y,p y∧a0j (I y) σ'))∧∀y,p y→factsSt (I y)→kN c (.it its::s) (I y))
theorem lok_eq {c:Cfg} {d:Option Nat} {r:List MOp} {s:List Fr} {e:List (Nat×V)} {h:Heap} {f:Eff}:lok c d r s e h f=aft c d r s e h f:=propext vR
def b3s (c:Cfg) (i:a06) (d:Option Nat) (t:Nat) (want:Bool) (r:List MOp) (s:List Fr) (e:List (Nat×V)) (h:Heap) (v:V):Prop :=
 match v with
 | .bool b=>a3f b want (ops c (⟨i,d,none⟩::r) s ⟨put t (.bool want) e,h⟩) (ops c r s ⟨a5f d (put t (.bool (!want)) e),h⟩)
 | .tup []=>ops c r s ⟨a5f d e,h⟩
 | _=>False
def goC (c:Cfg) (x:Opd) (a b:MC) (s:List Fr) (e:List (Nat×V)) (h:Heap) (v:V):Prop :=
 match v with
 | .bool t=>a3f t true (go c a s (b3z x true ⟨e,h⟩)) (go c b s (b3z x false ⟨e,h⟩))
 | _=>False
section
variable {c:Cfg} {e:List (Nat×V)} {h:Heap} {s:List Fr} {r:List MOp} {d:Option Nat} {i:a06}
theorem go_seq {a b:MC}:go c (.seq a b) s ⟨e,h⟩=go c a (.sq b::s) ⟨e,h⟩:=by simp only [go,MWP,kN,kX]
theorem go_block {id:Nat} {b:MC}:go c (.block id b) s ⟨e,h⟩=go c b (.bl id::s) ⟨e,h⟩:=by simp only [go,MWP,kN,kX]
theorem go_skip:go c .skip s ⟨e,h⟩=kN c s ⟨e,h⟩:=propext vR
theorem go_ret:go c .ret s ⟨e,h⟩=c.R ⟨e,h⟩:=propext vR
theorem go_exit {id:Nat}:go c (.exit id) s ⟨e,h⟩=kX c s id ⟨e,h⟩:=propext vR
theorem go_reg {ms:List MOp}:go c (.reg ms) s ⟨e,h⟩=ops c ms s ⟨e,h⟩:=propext vR
theorem go_cond {x:Opd} {a b:MC}:go c (.cond x a b) s ⟨e,h⟩=goC c x a b s e h (x.ev e):=by
 unfold go MWP goC;rfl
theorem go_note {n:a3l} {b:MC}:go c (.note n b) s ⟨e,h⟩=a0l c.H0 n ⟨e,h⟩ (go c b s):=propext vR
theorem go_hnote {T:St→(St→Prop)→Prop} {b:MC}:go c (.hnote T b) s ⟨e,h⟩=T ⟨e,h⟩ (go c b s):=propext vR
theorem kN_nil:kN c [] ⟨e,h⟩=c.K ⟨e,h⟩:=by simp only [kN]
theorem kN_sq {b:MC}:kN c (.sq b::s) ⟨e,h⟩=go c b s ⟨e,h⟩:=by simp only [kN,go]
theorem kN_bl {id:Nat}:kN c (.bl id::s) ⟨e,h⟩=kN c s ⟨e,h⟩:=by simp only [kN]
theorem kX_nil {n:Nat}:kX c [] n ⟨e,h⟩=c.X n ⟨e,h⟩:=by simp only [kX]
theorem kX_sq {b:MC} {n:Nat}:kX c (.sq b::s) n ⟨e,h⟩=kX c s n ⟨e,h⟩:=by simp only [kX]
theorem g01 {id n:Nat}:kX c (.bl id::s) n ⟨e,h⟩=bif Nat.beq n id then kN c s ⟨e,h⟩ else kX c s n ⟨e,h⟩:=by simp only [kX]
theorem go_regI {its:List It}:go c (.regI its) s ⟨e,h⟩=kN c (.it its::s) ⟨e,h⟩:=by simp only [go,MWP,kN]
theorem kN_it_nil:kN c (.it []::s) ⟨e,h⟩=kN c s ⟨e,h⟩:=by simp only [kN,b8m]
theorem kN_it_op {m:MOp} {its:List It}:kN c (.it (.op m::its)::s) ⟨e,h⟩=ops c [m] (.it its::s) ⟨e,h⟩:=by simp only [kN,b8m,ops,runN]
theorem kN_it_nt {n:a3l} {its:List It}:kN c (.it (.nt n::its)::s) ⟨e,h⟩=a0l c.H0 n ⟨e,h⟩ (kN c (.it its::s)):=by
 have:kN c (.it its::s)=fun σ'=>b8m c.P c.H0 its σ' (kN c s):=by funext σ';simp only [kN]
 rw [this];simp only [kN,b8m]
theorem kN_it_grp {ms:List MOp} {its:List It}:kN c (.it (.grp ms::its)::s) ⟨e,h⟩=grpC c ms its s ⟨e,h⟩:=by
 have:kN c (.it its::s)=fun σ'=>b8m c.P c.H0 its σ' (kN c s):=by funext σ';simp only [kN]
 unfold grpC;rw [this];simp only [kN,b8m]
theorem kX_it {its:List It} {n:Nat}:kX c (.it its::s) n ⟨e,h⟩=kX c s n ⟨e,h⟩:=by simp only [kX]
theorem ops_nil:ops c [] s ⟨e,h⟩=kN c s ⟨e,h⟩:=propext vR
theorem ops_guard {t:Nat} {w:Bool}:ops c (⟨i,d,some (t,w)⟩::r) s ⟨e,h⟩=b3s c i d t w r s e h (get t e):=propext vR
theorem g00 (K:Eff→Prop):(fun e=>Lk (K e))=K:=funext fun e=>propext ⟨Lk.out,Lk.mk⟩
theorem ops_ins:ops c (⟨i,d,none⟩::r) s ⟨e,h⟩=bif a11 c.H0 ⟨e,h⟩ (i.creates (d.getD 0)) then w9 c.P i (d.getD 0) (i.opds.map (·.ev e)) (c3l h) (aft c d r s e h) (lok c d r s e h) else False:=by
 simp only [ops,runN,b49,b6q,g00];rfl
theorem aft_eq {v:V} {dr:List Nat} {nw:List (Nat×a0c)}:aft c d r s e h ⟨v,dr,nw⟩=ops c r s ⟨c2u d v e,puts nw (c83 dr h)⟩:=propext vR
theorem aft_some {n:Nat} {v:V}:a0m (aft c (some n) r s e h) v=ops c r s ⟨put n v e,h⟩:=propext vR
theorem aft_none {v:V}:a0m (aft c none r s e h) v=ops c r s ⟨e,h⟩:=propext vR
theorem aft_up {n:Nat} {id:Nat} {o:a0c}:a6z (aft c (some n) r s e h) id o=ops c r s ⟨put n .any e,put id o h⟩:=propext vR
theorem aft_upn {id:Nat} {o:a0c}:a6z (aft c none r s e h) id o=ops c r s ⟨e,put id o h⟩:=propext vR
theorem lok_comp {v:V}:a0m (lok c d r s e h) v=a0m (aft c d r s e h) v:=propext vR
theorem lok_compU {id:Nat} {o:a0c}:a6z (lok c d r s e h) id o=a6z (aft c d r s e h) id o:=propext vR
theorem a4j {t:Nat} {w b:Bool}:b3s c i d t w r s e h (.bool b)=a3f b w (ops c (⟨i,d,none⟩::r) s ⟨put t (.bool w) e,h⟩) (ops c r s ⟨a5f d (put t (.bool (!w)) e),h⟩):=propext vR
theorem opsG_tup {t:Nat} {w:Bool}:b3s c i d t w r s e h (.tup [])=ops c r s ⟨a5f d e,h⟩:=propext vR
theorem opsG_lit_tt {t:Nat}:b3s c i d t true r s e h (.bool true)=ops c (⟨i,d,none⟩::r) s ⟨put t (.bool true) e,h⟩:=by rw [a4j,a8r]
theorem opsG_lit_ff {t:Nat}:b3s c i d t false r s e h (.bool false)=ops c (⟨i,d,none⟩::r) s ⟨put t (.bool false) e,h⟩:=by rw [a4j,b62]
theorem opsG_lit_tf {t:Nat}:b3s c i d t false r s e h (.bool true)=ops c r s ⟨a5f d (put t (.bool true) e),h⟩:=by rw [a4j,b61];rfl
theorem opsG_lit_ft {t:Nat}:b3s c i d t true r s e h (.bool false)=ops c r s ⟨a5f d (put t (.bool false) e),h⟩:=by rw [a4j,a8s];rfl
theorem a9n {t:Nat} {p:Prop} [Decidable p]:b3s c i d t true r s e h (.bool (decide p)) =
  ((p→ops c (⟨i,d,none⟩::r) s ⟨put t (.bool true) e,h⟩)∧(¬p→ops c r s ⟨a5f d (put t (.bool false) e),h⟩)):=by
 rw [a4j];simp [a3f]
theorem a9o {t:Nat} {p:Prop} [Decidable p]:b3s c i d t false r s e h (.bool (decide p)) =
  ((¬p→ops c (⟨i,d,none⟩::r) s ⟨put t (.bool false) e,h⟩)∧(p→ops c r s ⟨a5f d (put t (.bool true) e),h⟩)):=by
 rw [a4j];simp [a3f]
theorem a6t {x:Opd} {a b:MC} {t:Bool}:goC c x a b s e h (.bool t)=a3f t true (go c a s (b3z x true ⟨e,h⟩)) (go c b s (b3z x false ⟨e,h⟩)):=propext vR
theorem goC_t {n:Nat} {a b:MC}:goC c (.t n) a b s e h (.bool true)=go c a s ⟨put n (.bool true) e,h⟩:=by rw [a6t,a8r];rfl
theorem goC_f {n:Nat} {a b:MC}:goC c (.t n) a b s e h (.bool false)=go c b s ⟨put n (.bool false) e,h⟩:=by rw [a6t,a8s];rfl
theorem goC_ct {v:V} {a b:MC}:goC c (.c v) a b s e h (.bool true)=go c a s ⟨e,h⟩:=by rw [a6t,a8r];rfl
theorem goC_cf {v:V} {a b:MC}:goC c (.c v) a b s e h (.bool false)=go c b s ⟨e,h⟩:=by rw [a6t,a8s];rfl
theorem b9t {n:Nat} {a b:MC} {p:Prop} [Decidable p]:goC c (.t n) a b s e h (.bool (decide p)) =
  ((p→go c a s ⟨put n (.bool true) e,h⟩)∧(¬p→go c b s ⟨put n (.bool false) e,h⟩)):=by
 rw [a6t];simp [a3f,b3z]
theorem goC_any {n:Nat} {a b:MC} (t:Bool):goC c (.t n) a b s e h (.bool t) =
  ((t=true→go c a s ⟨put n (.bool true) e,h⟩)∧(t=false→go c b s ⟨put n (.bool false) e,h⟩)):=by
 rw [a6t];simp [a3f,b3z]
theorem opsG_any {t:Nat} {w:Bool} (b:Bool):b3s c i d t w r s e h (.bool b) =
  ((b=w→ops c (⟨i,d,none⟩::r) s ⟨put t (.bool w) e,h⟩)∧(b=(!w)→ops c r s ⟨a5f d (put t (.bool (!w)) e),h⟩)):=propext vR
section
variable {vs:List V} {P:Program} {n0:Nat} {ob:Nat→Option a0c} {K L:Eff→Prop}
theorem g0e {x:Opd} {v:V}:w9 P (.mv x) n0 [v] ob K L=a0m K v:=propext vR
theorem d9q {x y z:Opd} {a b t:V}:w9 P (.pick x y z) n0 [t,a,b] ob K L=b91 t a b (a0m K):=propext vR
theorem g0h {n:Option Nat} {x:Opd} {a:V}:w9 P (.ld n x) n0 [a] ob K L=sLd n a ob (a0m K) (a0m L):=propext vR
theorem g0d {n:Nat} {x y:Opd} {a v:V}:w9 P (.st n x y) n0 [a,v] ob K L=sSt n a v ob (a6z K) (a6z L):=propext vR
theorem f07 {x:Opd} {a:V}:w9 P (.nck x) n0 [a] ob K L=e0s a (a0m K):=propext vR
theorem f0h {ch:Bool} {op:BinOp} {x y:Opd} {a b:V}:w9 P (.bin ch op x y) n0 [a,b] ob K L=d3u ch op a b (a0m K):=propext vR
theorem d9t {m:Nat} {x:Opd} {k:IntKind} {a:V}:w9 P (.mask m x k) n0 [a] ob K L=b93 m k a (a0m K):=propext vR
theorem f0i {ng:Bool} {x y:Opd} {a b:V}:w9 P (.beq ng x y) n0 [a,b] ob K L=e0w ng a b (a0m K):=propext vR
theorem f0f {ng:Bool} {ks:List Nat} {x y:Opd} {a b:V}:w9 P (.eqs ng ks x y) n0 [a,b] ob K L=d60 ng ks a b (a0m K):=propext vR
theorem f05 {x:Opd} {a:V}:w9 P (.not x) n0 [a] ob K L=e0q a (a0m K):=propext vR
theorem f06 {ch:Bool} {x:Opd} {a:V}:w9 P (.neg ch x) n0 [a] ob K L=e0r ch a (a0m K):=propext vR
theorem f0c {ch:Bool} {k:IntKind} {x:Opd} {a:V}:w9 P (.i2i ch k x) n0 [a] ob K L=e0u ch k a (a0m K):=propext vR
theorem d9s {f:Nat} {cap:List Opd}:w9 P (.mkfn f cap) n0 vs ob K L=a0m K (.fn (.func f) vs):=by unfold w9;rfl
theorem f04 {k:Nat} {x:Opd} {lo hi:Option Opd} {v:V}:w9 P (.slc k x lo hi) n0 (v::vs) ob K L=d3s k lo.isSome hi.isSome v vs (a0m K):=propext vR
theorem f0d {off:Nat} {x:Opd} {a:V}:w9 P (.fad off x) n0 [a] ob K L=e0v off a (a0m K):=propext vR
theorem f0b {k:Nat} {x i:Opd} {a b:V}:w9 P (.iad k x i) n0 [a,b] ob K L=c95 k a b (a0m K) (a0m L):=propext vR
theorem f09 {x i:Opd} {a b:V}:w9 P (.idx x i) n0 [a,b] ob K L=e0t a b (a0m K):=propext vR
theorem f0k {n:Option Nat} {k q:Nat} {x i:Opd} {a b:V}:w9 P (.aix n k q x i) n0 [a,b] ob K L=e0x n k q a b (a0m K):=propext vR
theorem f0e {i:Nat} {x:Opd} {a:V}:w9 P (.ext i x) n0 [a] ob K L=d5y i a (a0m K):=propext vR
theorem at_len {t:Bool} {x:Opd} {a:V}:w9 P (.len t x) n0 [a] ob K L=sLen t a (a0m K):=propext vR
theorem g0g {mx:Bool} {x y:Opd} {a b:V}:w9 P (.mm mx x y) n0 [a,b] ob K L=sMm mx a b (a0m K):=propext vR
theorem d39 {zs:List V} {t:Option TypeId}:w9 P (.alloc zs t) n0 vs ob K L=K ⟨.ptr n0 0,[],[(n0,.cells zs t)]⟩:=by unfold w9;rfl
theorem f0g {x:Opd} {a:V}:w9 P (.box x) n0 [a] ob K L=d62 n0 a K:=propext vR
theorem c8s {k:Nat} {xs:List Opd} {uv:Bool}:w9 P (.bslice k xs uv) n0 vs ob K L=bif vs.all (a2z k) then K ⟨.osl n0 k 0 vs.length,[],[(n0,.arr k vs (uvT uv))]⟩ else False:=by unfold w9;rfl
theorem d9r {k bytes:Nat} {z:V} {l m:Opd} {a b:V}:w9 P (.mksl k bytes z l m) n0 [a,b] ob K L=b92 k bytes n0 z a b K:=propext vR
theorem f0j {k bytes:Nat} {x y:Opd} {ty:Option TypeId} {a b:V}:w9 P (.app k bytes x y ty) n0 [a,b] ob K L=c0t k bytes n0 ty a b ob K:=propext vR
theorem d9u {f:Opd} {args:List Opd} {ids news:List Nat} {g:V}:w9 P (.call f args ids news) n0 (g::vs) ob K L=b0y P g vs ids news ob (L):=propext vR
def c7q (K:Eff→Prop):Option (List V)→Prop
 | some cs=>a0m K (.agg cs)
 | none=>False
theorem f08 {k:Nat} {xs:List Opd}:w9 P (.lsl k xs) n0 vs ob K L=bif vs.all (a2z k) then a0m K (.sl vs) else False:=by unfold w9;rfl
theorem d9v {k:Nat} {zs:List V} {xs:List Opd}:w9 P (.barr k zs xs) n0 vs ob K L=c7q K (a8z zs (a1u k 0 vs)):=by
 unfold w9 c7q;rfl
theorem d38 {zs:List V} {ps:List (Nat×Nat×Opd)}:w9 P (.build zs ps) n0 vs ob K L=c7q K (a8z zs ((ps.zip vs).map fun p=>(p.1.1,p.1.2.1,p.2))):=by
 unfold w9 c7q;rfl
end
theorem c4t (n m:Nat):Nat.beq n m=(n==m):=by
 cases hb:Nat.beq n m with
 | true=>rw [zR hb];simp
 | false =>
  have:n≠m:=fun e=>by rw [e,vE] at hb;cases hb
  simp [this]
theorem g7z (n m:Nat):Nat.ble n m=decide (n≤m):=by
 cases hb:Nat.ble n m with
 | true=>have:=zQ hb;simp [this]
 | false =>
  have:¬n≤m:=fun e=>by rw [Nat.ble_eq_true_of_le e] at hb;cases hb
  simp [this]
theorem d27 {n m:Nat} {x:V} {r:List (Nat×V)}:get n ((m,x)::r)=bif n==m then x else get n r:=by simp only [get,c4t]
theorem d8t {n:Nat}:get n []=.any:=rfl
theorem c7o {α:Type} {n m:Nat} {x:α} {r:List (Nat×α)}:find n ((m,x)::r)=bif n==m then some x else find n r:=by simp only [find,c4t]
theorem d2e {α:Type} {n:Nat}:find n ([]:List (Nat×α))=none:=rfl
theorem d0j {α:Type} {n m:Nat} {x y:α} {r:List (Nat×α)}:put n x ((m,y)::r)=bif n==m then (m,x)::r else (m,y)::put n x r:=by simp only [put,c4t]
theorem d6f {α:Type} {n:Nat} {x:α}:put n x []=[(n,x)]:=rfl
theorem d2o {α:Type} {n m:Nat} {x:α} {r:List (Nat×α)}:del n ((m,x)::r)=bif n==m then del n r else (m,x)::del n r:=by simp only [del,c4t]
theorem d91 {α:Type} {n:Nat}:del n ([]:List (Nat×α))=[]:=rfl
theorem d6u {n:Nat}:c3l h n=find n h:=rfl
theorem d8k {n id o:Nat}:(V.ptr id o).has n=(n==id):=by simp only [V.has,c4t]
theorem d8l {n id k l m:Nat}:(V.osl id k l m).has n=(n==id):=by simp only [V.has,c4t]
theorem d1r {n id k l m:Nat}:(V.optr id k l m).has n=(n==id):=by simp only [V.has,c4t]
theorem d21 {n id:Nat}:(V.bptr id).has n=(n==id):=by simp only [V.has,c4t]
theorem d1s {n id:Nat}:(V.omap id).has n=(n==id):=by simp only [V.has,c4t]
theorem d8q {n:Nat} {cs:List V}:(V.agg cs).has n=V.hasL n cs:=by simp only [V.has]
theorem d8i {n:Nat} {cs:List V}:(V.tup cs).has n=V.hasL n cs:=by simp only [V.has]
theorem e87 {n:Nat} {f:Fn} {cs:List V}:(V.fn f cs).has n=V.hasL n cs:=by simp only [V.has]
theorem d22 {n:Nat} {b:Bool}:(V.bool b).has n=false:=by simp only [V.has]
theorem d8m {n:Nat} {k:IntKind} {x:Int}:(V.int k x).has n=false:=by simp only [V.has]
theorem d8j {n:Nat} {x:List UInt8}:(V.str x).has n=false:=by simp only [V.has]
theorem e86 {n:Nat} {x:List V}:(V.sl x).has n=false:=by simp only [V.has]
theorem d1t {n:Nat}:V.nils.has n=false:=by simp only [V.has]
theorem d1v {n:Nat}:V.nilp.has n=false:=by simp only [V.has]
theorem d1w {n:Nat}:V.nilm.has n=false:=by simp only [V.has]
theorem d1y {n:Nat}:V.nilf.has n=false:=by simp only [V.has]
theorem d1x {n:Nat}:V.nili.has n=false:=by simp only [V.has]
theorem d8p {n:Nat}:V.any.has n=false:=by simp only [V.has]
theorem d1z {n o:Nat} {x:V}:(V.eptr x o).has n=false:=by simp only [V.has]
theorem d23 {n:Nat}:V.hasL n []=false:=by simp only [V.hasL]
theorem c7e {n:Nat} {x:V} {l:List V}:V.hasL n (x::l)=(x.has n||V.hasL n l):=by simp only [V.hasL]
theorem c42 {σ:St} {H:Heap}:a11 H σ []=true:=rfl
theorem c04 {n:Nat} {l:List Nat} {H:Heap}:a11 H ⟨e,h⟩ (n::l)=((find n H).isNone&&a5z n e&&a0z n h&&a11 H ⟨e,h⟩ l):=by
 simp only [a11];cases find n H<;>rfl
theorem kX_bl' {id n:Nat}:kX c (.bl id::s) n ⟨e,h⟩=bif n==id then kN c s ⟨e,h⟩ else kX c s n ⟨e,h⟩:=by rw [g01,c4t]
theorem d73 {n:Nat}:mem n []=false:=rfl
theorem c6n {n m:Nat} {l:List Nat}:mem n (m::l)=(n==m||mem n l):=by simp only [mem,c4t]
def f7u (H:Heap) (σ:St) (i:Nat) (a:List (List Nat)) (l:List Ent):Prop:=a2k H σ i a l=true
theorem d98 {H:Heap} {σ:St} {i:Nat} {a:List (List Nat)} {l:List Ent} (h:a2k H σ i a l=true):f7u H σ i a l:=h
def opsD (c:Cfg) (anc:List (List Nat)) (e0:List (Nat×V)) (h0:Heap) (ms:List MOp) (log:List Ent) (s:List Fr) (σ:St):Prop :=
 c5o c.P c.H0 ms log σ fun log σ'=>a2k c.H0 ⟨e0,h0⟩ 0 anc log.reverse=true∧kN c s σ'
def aftD (c:Cfg) (anc:List (List Nat)) (e0:List (Nat×V)) (h0:Heap) (d:Option Nat) (u t m:List Nat) (r:List MOp) (log:List Ent) (s:List Fr) (e:List (Nat×V)) (h:Heap) (f:Eff):Prop :=
 opsD c anc e0 h0 r (⟨d,some f,u,t,m⟩::log) s (St.app ⟨e,h⟩ d f)
def lokD (c:Cfg) (anc:List (List Nat)) (e0:List (Nat×V)) (h0:Heap) (d:Option Nat) (u t m:List Nat) (r:List MOp) (log:List Ent) (s:List Fr) (e:List (Nat×V)) (h:Heap) (f:Eff):Prop :=
 aftD c anc e0 h0 d u t m r log s e h f
def insG (c:Cfg) (anc:List (List Nat)) (e0:List (Nat×V)) (h0:Heap) (i:a06) (d:Option Nat) (gs:List Nat) (r:List MOp) (log:List Ent) (s:List Fr) (e:List (Nat×V)) (h:Heap):Prop :=
 bif a11 c.H0 ⟨e,h⟩ (i.creates (d.getD 0)) then
  a0y c.P i (d.getD 0) (i.opds.map (·.ev e)) (c3l h) (aftD c anc e0 h0 d (gs++slotsOf i.opds) (i.touch (i.opds.map (·.ev e))) (i.creates (d.getD 0)) r log s e h)
   (lokD c anc e0 h0 d (gs++slotsOf i.opds) (i.touch (i.opds.map (·.ev e))) (i.creates (d.getD 0)) r log s e h)
 else False
def opsDG (c:Cfg) (anc:List (List Nat)) (e0:List (Nat×V)) (h0:Heap) (i:a06) (d:Option Nat) (t:Nat) (want:Bool) (r:List MOp) (log:List Ent) (s:List Fr) (e:List (Nat×V)) (h:Heap) (v:V):Prop :=
 match v with
 | .bool b=>a3f b want (insG c anc e0 h0 i d [t] r log s (put t (.bool want) e) h) (opsD c anc e0 h0 r (⟨d,none,[t],[],[]⟩::log) s ⟨a5f d (put t (.bool (!want)) e),h⟩)
 | .tup []=>opsD c anc e0 h0 r (⟨d,none,[t],[],[]⟩::log) s ⟨a5f d e,h⟩
 | _=>False
section
variable {P:Program} {n0:Nat} {vs:List V} {ob:Nat→Option a0c} {K L:Eff→Prop}
theorem g09 {x:Opd}:a0y P (.mv x) n0 vs ob K L=w9 P (.mv x) n0 vs ob K L:=propext vR
theorem d92 {x y z:Opd}:a0y P (.pick x y z) n0 vs ob K L=w9 P (.pick x y z) n0 vs ob K L:=propext vR
theorem d2r {zs:List V} {t:Option TypeId}:a0y P (.alloc zs t) n0 vs ob K L=w9 P (.alloc zs t) n0 vs ob K L:=propext vR
theorem e9q {x:Opd}:a0y P (.box x) n0 vs ob K L=w9 P (.box x) n0 vs ob K L:=propext vR
theorem d2q {zs:List V} {ps:List (Nat×Nat×Opd)}:a0y P (.build zs ps) n0 vs ob K L=w9 P (.build zs ps) n0 vs ob K L:=propext vR
theorem c84 {k:Nat} {xs:List Opd} {uv:Bool}:a0y P (.bslice k xs uv) n0 vs ob K L=w9 P (.bslice k xs uv) n0 vs ob K L:=propext vR
theorem g0c {n:Option Nat} {x:Opd}:a0y P (.ld n x) n0 vs ob K L=w9 P (.ld n x) n0 vs ob K L:=propext vR
theorem g08 {n:Nat} {x y:Opd}:a0y P (.st n x y) n0 vs ob K L=w9 P (.st n x y) n0 vs ob K L:=propext vR
theorem e9d {x:Opd}:a0y P (.nck x) n0 vs ob K L=w9 P (.nck x) n0 vs ob K L:=propext vR
theorem e9r {ch:Bool} {op:BinOp} {x y:Opd}:a0y P (.bin ch op x y) n0 vs ob K L=w9 P (.bin ch op x y) n0 vs ob K L:=propext vR
theorem d96 {m:Nat} {x:Opd} {k:IntKind}:a0y P (.mask m x k) n0 vs ob K L=w9 P (.mask m x k) n0 vs ob K L:=propext vR
theorem e9s {ng:Bool} {x y:Opd}:a0y P (.beq ng x y) n0 vs ob K L=w9 P (.beq ng x y) n0 vs ob K L:=propext vR
theorem e9n {ng:Bool} {ks:List Nat} {x y:Opd}:a0y P (.eqs ng ks x y) n0 vs ob K L=w9 P (.eqs ng ks x y) n0 vs ob K L:=propext vR
theorem e9b {x:Opd}:a0y P (.not x) n0 vs ob K L=w9 P (.not x) n0 vs ob K L:=propext vR
theorem e9c {ch:Bool} {x:Opd}:a0y P (.neg ch x) n0 vs ob K L=w9 P (.neg ch x) n0 vs ob K L:=propext vR
theorem e9k {ch:Bool} {k:IntKind} {x:Opd}:a0y P (.i2i ch k x) n0 vs ob K L=w9 P (.i2i ch k x) n0 vs ob K L:=propext vR
theorem d95 {f:Nat} {cap:List Opd}:a0y P (.mkfn f cap) n0 vs ob K L=w9 P (.mkfn f cap) n0 vs ob K L:=propext vR
theorem d94 {k bytes:Nat} {z:V} {l m:Opd}:a0y P (.mksl k bytes z l m) n0 vs ob K L=w9 P (.mksl k bytes z l m) n0 vs ob K L:=propext vR
theorem e98 {k:Nat} {x:Opd} {lo hi:Option Opd}:a0y P (.slc k x lo hi) n0 vs ob K L=w9 P (.slc k x lo hi) n0 vs ob K L:=propext vR
theorem e9l {off:Nat} {x:Opd}:a0y P (.fad off x) n0 vs ob K L=w9 P (.fad off x) n0 vs ob K L:=propext vR
theorem e9j {k:Nat} {x y:Opd}:a0y P (.iad k x y) n0 vs ob K L=w9 P (.iad k x y) n0 vs ob K L:=propext vR
theorem e9i {x y:Opd}:a0y P (.idx x y) n0 vs ob K L=w9 P (.idx x y) n0 vs ob K L:=propext vR
theorem e9v {n:Option Nat} {k q:Nat} {x i:Opd}:a0y P (.aix n k q x i) n0 vs ob K L=w9 P (.aix n k q x i) n0 vs ob K L:=propext vR
theorem e9e {k:Nat} {xs:List Opd}:a0y P (.lsl k xs) n0 vs ob K L=w9 P (.lsl k xs) n0 vs ob K L:=propext vR
theorem d97 {k:Nat} {zs:List V} {xs:List Opd}:a0y P (.barr k zs xs) n0 vs ob K L=w9 P (.barr k zs xs) n0 vs ob K L:=propext vR
theorem e9m {i:Nat} {x:Opd}:a0y P (.ext i x) n0 vs ob K L=w9 P (.ext i x) n0 vs ob K L:=propext vR
theorem e9g {t:Bool} {x:Opd}:a0y P (.len t x) n0 vs ob K L=w9 P (.len t x) n0 vs ob K L:=propext vR
theorem e9t {k bytes:Nat} {x y:Opd} {ty:Option TypeId}:a0y P (.app k bytes x y ty) n0 vs ob K L=w9 P (.app k bytes x y ty) n0 vs ob K L:=propext vR
theorem g0a {mx:Bool} {x y:Opd}:a0y P (.mm mx x y) n0 vs ob K L=w9 P (.mm mx x y) n0 vs ob K L:=propext vR
end
section
variable {anc aft0:List (List Nat)} {e0:List (Nat×V)} {h0:Heap} {log:List Ent} {u t m gs:List Nat}
theorem go_regD {ms:List MOp}:go c (.regD ms aft0 anc) s ⟨e,h⟩=opsD c anc e h ms [] s ⟨e,h⟩:=propext vR
theorem opsD_nil:opsD c anc e0 h0 [] log s ⟨e,h⟩=(f7u c.H0 ⟨e0,h0⟩ 0 anc log.reverse∧kN c s ⟨e,h⟩):=propext vR
theorem opsD_ins:opsD c anc e0 h0 (⟨i,d,none⟩::r) log s ⟨e,h⟩=insG c anc e0 h0 i d [] r log s e h:=propext vR
theorem opsD_guard {n:Nat} {w:Bool}:opsD c anc e0 h0 (⟨i,d,some (n,w)⟩::r) log s ⟨e,h⟩=opsDG c anc e0 h0 i d n w r log s e h (get n e):=propext vR
theorem insG_eq:insG c anc e0 h0 i d gs r log s e h=bif a11 c.H0 ⟨e,h⟩ (i.creates (d.getD 0)) then
  a0y c.P i (d.getD 0) (i.opds.map (·.ev e)) (c3l h) (aftD c anc e0 h0 d (gs++slotsOf i.opds) (i.touch (i.opds.map (·.ev e))) (i.creates (d.getD 0)) r log s e h)
   (lokD c anc e0 h0 d (gs++slotsOf i.opds) (i.touch (i.opds.map (·.ev e))) (i.creates (d.getD 0)) r log s e h)
 else False:=propext vR
theorem c2q {P:Program} {n0:Nat} {vs:List V} {ob:Nat→Option a0c} {K L:Eff→Prop} {f:Opd} {args:List Opd} {ids news:List Nat} {g:V} :
  a0y P (.call f args ids news) n0 (g::vs) ob K L=b1u P g vs ids news ob L:=rfl
theorem aftD_eq {v:V} {dr:List Nat} {nw:List (Nat×a0c)}:aftD c anc e0 h0 d u t m r log s e h ⟨v,dr,nw⟩=opsD c anc e0 h0 r (⟨d,some ⟨v,dr,nw⟩,u,t,m⟩::log) s ⟨c2u d v e,puts nw (c83 dr h)⟩:=propext vR
theorem aftD_comp {v:V}:a0m (aftD c anc e0 h0 d u t m r log s e h) v=opsD c anc e0 h0 r (⟨d,some ⟨v,[],[]⟩,u,t,m⟩::log) s ⟨c2u d v e,h⟩:=propext vR
theorem aftD_up {id:Nat} {o:a0c}:a6z (aftD c anc e0 h0 d u t m r log s e h) id o=opsD c anc e0 h0 r (⟨d,some ⟨.any,[],[(id,o)]⟩,u,t,m⟩::log) s ⟨c2u d .any e,put id o h⟩:=propext vR
theorem lokD_eq {f:Eff}:lokD c anc e0 h0 d u t m r log s e h f=aftD c anc e0 h0 d u t m r log s e h f:=propext vR
theorem lokD_comp {v:V}:a0m (lokD c anc e0 h0 d u t m r log s e h) v=a0m (aftD c anc e0 h0 d u t m r log s e h) v:=propext vR
theorem lokD_compU {id:Nat} {o:a0c}:a6z (lokD c anc e0 h0 d u t m r log s e h) id o=a6z (aftD c anc e0 h0 d u t m r log s e h) id o:=propext vR
theorem opsDG_bool {n:Nat} {w b:Bool}:opsDG c anc e0 h0 i d n w r log s e h (.bool b) =
  a3f b w (insG c anc e0 h0 i d [n] r log s (put n (.bool w) e) h) (opsD c anc e0 h0 r (⟨d,none,[n],[],[]⟩::log) s ⟨a5f d (put n (.bool (!w)) e),h⟩):=propext vR
theorem opsDG_tup {n:Nat} {w:Bool}:opsDG c anc e0 h0 i d n w r log s e h (.tup [])=opsD c anc e0 h0 r (⟨d,none,[n],[],[]⟩::log) s ⟨a5f d e,h⟩:=propext vR
theorem opsDG_tt {n:Nat}:opsDG c anc e0 h0 i d n true r log s e h (.bool true)=insG c anc e0 h0 i d [n] r log s (put n (.bool true) e) h:=by rw [opsDG_bool,a8r]
theorem opsDG_ff {n:Nat}:opsDG c anc e0 h0 i d n false r log s e h (.bool false)=insG c anc e0 h0 i d [n] r log s (put n (.bool false) e) h:=by rw [opsDG_bool,b62]
theorem opsDG_tf {n:Nat}:opsDG c anc e0 h0 i d n false r log s e h (.bool true)=opsD c anc e0 h0 r (⟨d,none,[n],[],[]⟩::log) s ⟨a5f d (put n (.bool true) e),h⟩:=by rw [opsDG_bool,b61];rfl
theorem opsDG_ft {n:Nat}:opsDG c anc e0 h0 i d n true r log s e h (.bool false)=opsD c anc e0 h0 r (⟨d,none,[n],[],[]⟩::log) s ⟨a5f d (put n (.bool false) e),h⟩:=by rw [opsDG_bool,a8s];rfl
theorem a7i {n:Nat} {p:Prop} [Decidable p]:opsDG c anc e0 h0 i d n true r log s e h (.bool (decide p)) =
  ((p→insG c anc e0 h0 i d [n] r log s (put n (.bool true) e) h)∧(¬p→opsD c anc e0 h0 r (⟨d,none,[n],[],[]⟩::log) s ⟨a5f d (put n (.bool false) e),h⟩)):=by
 rw [opsDG_bool];simp [a3f]
theorem a7j {n:Nat} {p:Prop} [Decidable p]:opsDG c anc e0 h0 i d n false r log s e h (.bool (decide p)) =
  ((¬p→insG c anc e0 h0 i d [n] r log s (put n (.bool false) e) h)∧(p→opsD c anc e0 h0 r (⟨d,none,[n],[],[]⟩::log) s ⟨a5f d (put n (.bool true) e),h⟩)):=by
 rw [opsDG_bool];simp [a3f]
end
theorem go_loop {b:MC} {α:Type} (I:α→St) (p:α→Prop) (μ:α→Nat) (ns:List a3l) (h0:a0g c.H0 ns ⟨e,h⟩ fun σ'=>∃x,p x∧a0j (I x) σ')
  (round:∀x,p x→factsSt (I x)→go ⟨c.P,c.H0,fun σ'=>Lk (a0g c.H0 ns σ' fun σ'=>∃y,p y∧μ y<μ x∧a0j (I y) σ'),kX c s,c.R⟩ b [] (I x)):go c (.loop b) s ⟨e,h⟩:=by
 unfold go MWP
 refine Lk.mk ⟨α,I,p,μ,ns,h0,fun x hp hf=>?_⟩
 have:=round x hp hf
 unfold go at this
 have e1:kN ⟨c.P,c.H0,fun σ'=>Lk (a0g c.H0 ns σ' fun σ'=>∃y,p y∧μ y<μ x∧a0j (I y) σ'),kX c s,c.R⟩ []=fun σ'=>Lk (a0g c.H0 ns σ' fun σ'=>∃y,p y∧μ y<μ x∧a0j (I y) σ'):=by funext σ;simp only [kN]
 have e2:kX ⟨c.P,c.H0,fun σ'=>Lk (a0g c.H0 ns σ' fun σ'=>∃y,p y∧μ y<μ x∧a0j (I y) σ'),kX c s,c.R⟩ []=kX c s:=by funext n σ;simp only [kX]
 rw [e1,e2] at this
 exact this
theorem go_grp {ms:List MOp} {its:List It} {α:Type} (I:α→St) (p:α→Prop) (h1:ops ⟨c.P,c.H0,fun σ'=>Lk (∃y,p y∧a0j (I y) σ'),fun _ _=>False,fun _=>False⟩ ms [] ⟨e,h⟩)
  (h2:∀y,p y→factsSt (I y)→kN c (.it its::s) (I y)):grpC c ms its s ⟨e,h⟩:=by
 unfold grpC
 refine Lk.mk ⟨α,I,p,?_,h2⟩
 unfold ops at h1
 have e1:kN ⟨c.P,c.H0,fun σ'=>Lk (∃y,p y∧a0j (I y) σ'),fun _ _=>False,fun _=>False⟩ []=fun σ'=>Lk (∃y,p y∧a0j (I y) σ'):=by funext σ;simp only [kN]
 rw [e1] at h1
 exact h1
end
theorem go_cut {c:Cfg} {e:List (Nat×V)} {h:Heap} {s:List Fr} {a b:MC} {α:Type} (I:α→St) (p:α→Prop) (ns:List a3l)
  (h1:go ⟨c.P,c.H0,fun σ'=>Lk (a0g c.H0 ns σ' fun σ'=>∃y,p y∧a0j (I y) σ'),kX c s,c.R⟩ a [] ⟨e,h⟩) (h2:∀y,p y→factsSt (I y)→go c b s (I y)):go c (.cut a b) s ⟨e,h⟩:=by
 unfold go MWP
 refine Lk.mk ⟨α,I,p,ns,?_,h2⟩
 unfold go at h1
 have e1:kN ⟨c.P,c.H0,fun σ'=>Lk (a0g c.H0 ns σ' fun σ'=>∃y,p y∧a0j (I y) σ'),kX c s,c.R⟩ []=fun σ'=>Lk (a0g c.H0 ns σ' fun σ'=>∃y,p y∧a0j (I y) σ'):=by funext σ;simp only [kN]
 have e2:kX ⟨c.P,c.H0,fun σ'=>Lk (a0g c.H0 ns σ' fun σ'=>∃y,p y∧a0j (I y) σ'),kX c s,c.R⟩ []=kX c s:=by funext n σ;simp only [kX]
 rw [e1,e2] at h1
 exact h1
def MC.straight:MC→Bool
 | .skip=>true
 | .reg _=>true
 | .regI _=>true
 | .regD _ _ _=>true
 | .seq a b=>a.straight&&b.straight
 | _=>false
theorem a6j {P:Program} {H0:Heap} {X X':Nat→St→Prop} {R R':St→Prop}:∀{a:MC} {K:St→Prop} {σ:St},a.straight=true→MWP P H0 a K X R σ=MWP P H0 a K X' R' σ
 | .skip,_,_,_=>by simp only [MWP]
 | .reg _,_,_,_=>by simp only [MWP]
 | .regI _,_,_,_=>by simp only [MWP]
 | .regD _ _ _,_,_,_=>by simp only [MWP]
 | .seq a b,K,σ,h=>by
  simp only [MC.straight,wG] at h
  simp only [MWP]
  rw [a6j (a:=a) h.1]
  congr 1
  funext σ'
  exact a6j (a:=b) h.2
 | .cut _ _,_,_,h=>by simp [MC.straight] at h
 | .cond _ _ _,_,_,h=>by simp [MC.straight] at h
 | .block _ _,_,_,h=>by simp [MC.straight] at h
 | .loop _,_,_,h=>by simp [MC.straight] at h
 | .note _ _,_,_,h=>by simp [MC.straight] at h
 | .hnote _ _,_,_,h=>by simp [MC.straight] at h
 | .no,_,_,h=>by simp [MC.straight] at h
 | .rngF _ _ _ _,_,_,h=>by simp [MC.straight] at h
 | .ret,_,_,h=>by simp [MC.straight] at h
 | .exit _,_,_,h=>by simp [MC.straight] at h
theorem go_rngF {c:Cfg} {e:List (Nat×V)} {h:Heap} {s:List Fr} {q:Opd} {ps:List Nat} {a b:MC} {gf:Nat} {caps:List V} {α:Type} (Hc:Heap) (xss:List (List V)) (pins:List Nat) (I:Nat→α→Heap) (p:Nat→α→Prop) (ns:List a3l)
  (hq:q.ev e=.fn (.func gf) caps) (hit:c0g c.P gf caps Hc xss) (hsc:a0j ⟨[],Hc⟩ ⟨e,h⟩) (hpin:b7v pins e=true) (hxs:∀xs∈xss,xs.length=ps.length∧V.withinL [] xs=true) (h0:∃x,p 0 x∧a0j ⟨[],I 0 x⟩ ⟨e,h⟩∧∀q∈Hc,find q.1 (I 0 x)=none)
  (round:∀k x xs,xss[k]?=some xs→p k x→a90 (I k x)→go ⟨c.P,b5o c.H0 pins,fun σ'=>Lk (a0g (b5o c.H0 pins) ns σ' fun σ'=>∃y,p (k+1) y∧a0j ⟨[],I (k+1) y⟩ σ'),fun i σ'=>kX c s i ⟨e,σ'.heap⟩,fun σ'=>c.R ⟨e,σ'.heap⟩⟩ (.seq a b) [] ⟨b3t ps xs e,I k x⟩)
  (ha:a.straight=true) (hdone:∀x,p xss.length x→kN c s ⟨e,I xss.length x⟩):go c (.rngF q ps a b) s ⟨e,h⟩:=by
 unfold go MWP
 simp only [hq]
 refine Lk.mk ⟨Hc,xss,pins,α,I,p,ns,hit,hsc,hpin,hxs,h0,fun k x xs hk hp hf=>?_,hdone⟩
 have:=round k x xs hk hp hf
 unfold go MWP at this
 have e1:∀(P:Program) (H:Heap) (K:St→Prop) (X:Nat→St→Prop) (R:St→Prop),kN ⟨P,H,K,X,R⟩ []=K:=fun _ _ _ _ _=>by funext σ;simp only [kN]
 have e2:∀(P:Program) (H:Heap) (K:St→Prop) (X:Nat→St→Prop) (R:St→Prop),kX ⟨P,H,K,X,R⟩ []=X:=fun _ _ _ _ _=>by funext n σ;simp only [kX]
 rw [e1,e2] at this
 simp only [MWP] at this
 rw [a6j ha]
 exact this
theorem c9z {P:Program} {n:Nat} {args:List V} {cap:List V} {ids news:List Nat} {ob:Nat→Option a0c} {L:Eff→Prop} {H H1:Heap} {r:V} (hc:a0o P n (args++cap) H (fun r' H'=>r'=r∧H'=H1)) (hs:b6j ids ob=some H)
  (hi:a9u H1 ids news=true) (hl:L ⟨r,ids,H1⟩):b0y P (.fn (.func n) cap) args ids news ob L:=by
 unfold b0y
 simp only [hs]
 exact hc.mono fun r' H' ⟨e1,e2⟩=>by subst e1;subst e2;rw [hi];exact hl
theorem c5k {P:Program} {n:Nat} {args:List V} {cap:List V} {ids news:List Nat} {ob:Nat→Option a0c} {L:Eff→Prop} {H H1:Heap} {r:V} (hc:a0o P n (args++cap) H (fun r' H'=>r'=r∧H'=H1)) (hs:b6j ids ob=some H)
  (hi:a9u H1 ids news=true) (hl:L ⟨r,ids,H1⟩):b1u P (.fn (.func n) cap) args ids news ob L:=by
 unfold b1u
 simp only [hs]
 exact ⟨r,H1,hc,hi,hl⟩
theorem d3g {P:Program} {f:Nat} {fn:Func} {code:Code} {mc:MC} {args:List V} {H:Heap} {Q:V→Heap→Prop} (ns:List a3l) (rids:List Nat) (rs:List RS) (hf:P.funcs[f]?=some fn) (hb:fn.body=some code) (hc:callable P f=true)
  (hnh:mc.nh=true) (hok:mc.ok P fn.ntmps code=true) (hrs:a5n P rs fn.results.toList=true) (hn:Nat.ble args.length fn.ntmps=true) (hg:St.good ⟨a4d 0 args,H⟩=true)
  (h:factsSt ⟨a4d 0 args,H⟩→go ⟨P,H,a1r H ns rids rs Q,fun _ _=>False,a1r H ns rids rs Q⟩ mc [] ⟨a4d 0 args,H⟩):a0o P f args H Q:=by
 refine c8y ns rids rs hf hb hc hnh hok hrs hn hg fun hfa=>?_
 have:=h hfa
 unfold go at this
 have e1:kN ⟨P,H,a1r H ns rids rs Q,fun _ _=>False,a1r H ns rids rs Q⟩ []=a1r H ns rids rs Q:=by funext σ;simp only [kN]
 have e2:kX ⟨P,H,a1r H ns rids rs Q,fun _ _=>False,a1r H ns rids rs Q⟩ []=fun _ _=>False:=by funext n σ;simp only [kX]
 rw [e1,e2] at this
 exact this
attribute [irreducible] f7u
def ints (l:List Int):V:=.sl (l.map fun n=>.int .i64 n)
def tape (l:List Int) (k:Nat):a0c:=.cells [ints l,.int .i64 k]
end Go.Ab