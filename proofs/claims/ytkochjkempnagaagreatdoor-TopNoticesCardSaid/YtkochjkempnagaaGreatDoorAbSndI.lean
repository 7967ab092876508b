/- The abstract layer, part 13: strings of bytes, calls; every instruction is sound. -/
import Derived.Test.YtkochjkempnagaaGreatDoorAbBase
import Derived.RangeFuncLeaves
import Derived.RangeFuncFrom
import Derived.OrdersIn
set_option linter.all false
namespace Go.Ab
open Go.RowKit
section
variable {P:Program} {o:Oper} {c:Ctx} {g:Gh} {σ:St} {a:Act} {w:World} {ob:Nat→Option Obj'} {K L:Eff→Prop} {K':Act→World→Prop} {Q':Exit→Act→World→Prop}
theorem subH_inv:∀{ids:List Nat} {H:Heap},subH ids ob=some H→H.map (·.1)=ids∧∀id o,find id H=some o→ob id=some o∧id∈ids
 | [],H,h=>by simp [subH] at h;subst h;exact ⟨rfl,fun id o h=>by simp [find] at h⟩
 | n :: r,H,h=>by
  simp only [subH] at h
  split at h
  ·rename_i o ho
   cases hr:subH r ob with
   | none=>rw [hr] at h;cases h
   | some H' =>
    rw [hr] at h
    simp at h;subst h
    obtain ⟨h1,h2⟩:=subH_inv hr
    refine ⟨by simp [h1],fun id o' h=>?_⟩
    by_cases e:id=n
    ·subst e
     simp [find] at h;subst h
     exact ⟨ho,xE⟩
    ·have:Nat.beq id n=false:=by
      cases hb:Nat.beq id n with
      | true=>exact absurd (zR hb) e
      | false=>rfl
     simp only [find,this,vB] at h
     obtain ⟨h3,h4⟩:=h2 id o' h
     exact ⟨h3,z7 _ h4⟩
  ·cases h
theorem subH_find {ids:List Nat} {H:Heap} (h:subH ids ob=some H) {id:Nat} (hid:id∈ids):∃o,find id H=some o:=by
 have h1:=(subH_inv h).1
 rw [←h1] at hid
 clear h h1
 induction H with
 | nil=>simp at hid
 | cons p H ih =>
  obtain ⟨m,o⟩:=p
  by_cases e:Nat.beq id m=true
  ·exact ⟨o,by simp [find,e]⟩
  ·have hne:¬id=m:=fun h=>e (by rw [h];exact wY m)
   simp only [wP,wO] at hid
   obtain ⟨o',ho'⟩:=ih (hid.resolve_left hne)
   have e':Nat.beq id m=false:=by
    cases hb:Nat.beq id m with
    | true=>exact absurd hb e
    | false=>rfl
   exact ⟨o',by simp only [find,e',vB];exact ho'⟩
theorem mem_inv {n:Nat}:∀{l:List Nat},mem n l=true→n∈l
 | [],h=>by simp [mem] at h
 | m::r,h=>by
  simp only [mem,wI] at h
  rcases h with h|h
  ·have:=zR h;subst this;exact xE
  ·exact z7 _ (mem_inv h)
theorem inIds_inv:∀{H:Heap} {ids news:List Nat},inIds H ids news=true→(∀id o,(id,o)∈H→id∈ids∨id∈news)∧∀id o,(id,o)∈H→find id H=some o
 | [],_,_,_=>⟨fun _ _ h=>by simp at h,fun _ _ h=>by simp at h⟩
 | (n,o1)::r,ids,news,h=>by
  simp only [inIds,x4,wI] at h
  obtain ⟨⟨h1,h2⟩,h3⟩:=h
  obtain ⟨k1,k2⟩:=inIds_inv h3
  refine ⟨fun id o ho=>?_,fun id o ho=>?_⟩
  ·rcases wO.1 ho with ho|ho
   ·cases ho
    exact h1.imp mem_inv mem_inv
   ·exact k1 id o ho
  ·rcases wO.1 ho with ho|ho
   ·cases ho;simp [find]
   ·have:=k2 id o ho
    by_cases e:id=n
    ·subst e
     rw [this] at h2;cases h2
    ·have e':Nat.beq id n=false:=by
      cases hb:Nat.beq id n with
      | true=>exact absurd (zR hb) e
      | false=>rfl
     simp only [find,e',vB];exact this
theorem HRel.sub {H H':Heap} (h:HRel P g w H) (hs:∀id o,find id H'=some o→find id H=some o):HRel P g w H' :=
 ⟨fun id o ho=>h.obj id o (hs id o ho),fun i j o o' hi hj=>h.inj i j o o' (hs i o hi) (hs j o' hj),fun id o ho=>h.sep id o (hs id o ho),h.lt,h.tabs⟩
theorem VR.bnd_inv {v:Value} {n:Nat} {cs:List V} (h:VR g w v (.fn (.yield n) cs)):∃vs:Array Value,v=.func (.func n) vs #[]∧vs.size=cs.length∧∀(i:Nat) (c:V),cs[i]?=some c→VR g w (vs.getD i undef) c:=by
 cases h with
 | rd h=>cases h
 | bnd n vs _ hl hr=>exact ⟨vs,rfl,hl,hr⟩
theorem s_call {f:Opd} {args:List Opd} {ids news:List Nat} (hok:(MIns.call f args ids news).ok P o.op=true) (hR:Rel P c g σ a w) (hob:∀id o,ob id=some o→find id σ.heap=some o) {d:Nat} (hcl:∀n∈news,Clean c σ n)
  (h:stepV P (.call f args ids news) d (f.ev σ.env::args.map (·.ev σ.env)) ob K L) (hF:Fin o c g σ a w K L K'):o.wp P a w K' Q':=by
 have:∃cl f',o.op=.call cl∧cl.callee=.value f'∧f.ok f'=true∧opdsOK args cl.args.toList=true:=by
  cases ho:o.op<;>rw [ho] at hok<;>try (simp [MIns.ok] at hok;done)
  rename_i cl
  obtain ⟨callee,args',ts⟩:=cl
  cases callee<;>try (simp [MIns.ok] at hok;done)
  simp only [MIns.ok,x4] at hok
  exact ⟨_,_,rfl,rfl,hok.1,hok.2⟩
 obtain ⟨cl,f',ho,hcal,hf,hargs⟩:=this
 have vf:=Opd.vr hR hf
 obtain ⟨hal,hav⟩:=opds_vr hR hargs
 simp only [stepV,sCall] at h
 split at h
 ·rename_i n cap hfn
  rw [hfn] at vf
  obtain ⟨vs,ef,hvl,hvr⟩:=vf.fn_inv
  split at h
  ·rename_i H hH
   obtain ⟨hcb,hcall⟩:=h
   obtain ⟨hdom,hsub⟩:=subH_inv hH
   have hHR:HRel P g w H:=hR.hp.sub fun id o ho=>hob id o (hsub id o ho).1
   have hAargs:=hcall g w (cl.args.map a.eval++vs) hHR (by simp [hal,hvl]) (fun i x hi=>by
    rw [List.getElem?_append] at hi
    simp only [wF] at hi
    by_cases hlt:i<args.length
    ·rw [if_pos hlt] at hi
     have:=hav i x hi
     have e1:(cl.args.map a.eval++vs).getD i undef=(cl.args.toList.map a.eval).getD i undef:=by
      have:i<cl.args.size:=by simpa [hal] using hlt
      simp [zC,zW,this]
     rw [e1];exact this
    ·rw [if_neg hlt] at hi
     have:=hvr (i - args.length) x hi
     have hsz:args.length=cl.args.size:=by simpa using hal
     have e1:(cl.args.map a.eval++vs).getD i undef=vs.getD (i - args.length) undef:=by
      simp [zC,zW,←hsz,hlt]
     rw [e1];exact this)
   have hrun:(execOp a.eval o).run P w=.ok (.enter n (cl.args.map a.eval++vs)) w:=by
    unfold callable at hcb
    split at hcb
    ·rename_i fn hfn'
     simp only [x4,xR] at hcb
     have hb:fn.body.isNone=false:=by
      cases hbo:fn.body with
      | none=>rw [hbo] at hcb;exact absurd hcb.2 (by simp)
      | some _=>rfl
     have hnm:¬fn.name = "runtime.NumGoroutine":=by simpa using hcb.1
     have hbb:¬fn.body=none:=by intro h;rw [h] at hb;cases hb
     simp [execOp,ho,resolve,hcal,ef,Deferred.ofValue,invoke,callFunc,hfn',hnm,hbb]
    ·cases hcb
   unfold Oper.wp
   rw [hrun]
   refine hAargs.mono ?_
   rintro e w' ⟨v,r,H',g',rfl,hq,hH',hv,hfr,hgh⟩
   by_cases hin:inIds H' ids news=true
   case neg=>simp [hin] at hq
   simp only [hin,vD] at hq
   obtain ⟨k1,k2⟩:=inIds_inv hin
   have hids:∀id∈ids,∃o,find id H=some o:=fun id hid=>subH_find hH hid
   have hdomf:∀id o,find id H=some o→id∈ids∧find id σ.heap=some o:=fun id o ho=>⟨(hsub id o ho).2,hob id o (hsub id o ho).1⟩
   have hM:∀b,(⟨w,g,H,0,[],[],H,g,w⟩:Ctx).M b→∃id o,id∈ids∧find id σ.heap=some o∧¬g.nil id∧g.ρ id=b:=by
    rintro b ⟨id,o,h1,h2,h3⟩
    exact ⟨id,o,(hdomf id o h1).1,(hdomf id o h1).2,h2,h3⟩
   have hmemE:∀id,id∈ids→id∈(Eff.mk r ids H').ids:=fun id hid=>by simp [Eff.ids,hid]
   refine hF ⟨r,ids,H'⟩ (.inr hq) g' v w' ⟨hfr.os,hfr.tape,hfr.output,hfr.size,fun b hb hb'=>hfr.old b hb fun hm=>?_,fun b hb=>hfr.sup b (.inl hb),fun b hb=>?_,hH'.lt,fun id hid=>hgh id ?_,fun id o ho=>hH'.obj id o (k2 id o ho),fun id o ho hn=>?_,
    fun i j o o' hi hj hni hnj=>hH'.inj i j o o' (k2 i o hi) (k2 j o' hj) hni hnj,fun id o ho hn=>hH'.sep id o (k2 id o ho) hn⟩ (fun id o ho=>?_) hv
   ·obtain ⟨id,o,h1,h2,h3,h4⟩:=hM b hm
    exact hb' id o (hmemE id h1) h2 h3 h4
   ·rcases (hfr.sub b hb).1 with h1|h1|h1
    ·exact .inl h1
    ·exact .inr (.inl h1)
    ·obtain ⟨id,o,h2,h3,h4,h5⟩:=hM b h1
     exact .inr (.inr ⟨id,o,hmemE id h2,h3,h4,h5⟩)
   ·cases hfd:find id H' with
    | none=>rfl
    | some o=>exact absurd (mem_of_find hfd) (hid o)
   ·rcases (hfr.own id o (k2 id o ho) hn).1 with h1|h1
    ·exact .inl h1
    ·obtain ⟨id',o',h2,h3,h4,h5⟩:=hM _ h1
     exact .inr ⟨id',o',hmemE id' h2,h3,h4,h5⟩
   ·rcases k1 id o ho with h1|h1
    ·obtain ⟨o',ho'⟩:=hids id h1
     exact .inl (hfr.par id o' ho')
    ·exact .inr ⟨(hcl id h1).1,fun s x hx=>noEnv_find (hcl id h1).2.1 hx,fun m o' hm _=>noHeap_find (hcl id h1).2.2 hm⟩
  ·exact h.elim
 ·rename_i n cap hfn
  rw [hfn] at vf
  obtain ⟨vs,ef,hvl,hvr⟩:=vf.bnd_inv
  split at h
  ·rename_i H hH
   obtain ⟨hcb,hcall⟩:=h
   obtain ⟨hdom,hsub⟩:=subH_inv hH
   have hHR:HRel P g w H:=hR.hp.sub fun id o ho=>hob id o (hsub id o ho).1
   have hAargs:=hcall g w (vs++cl.args.map a.eval) hHR (by simp [hal,hvl]) (fun i x hi=>by
    rw [List.getElem?_append] at hi
    by_cases hlt:i<cap.length
    ·rw [if_pos hlt] at hi
     have:=hvr i x hi
     have e1:(vs++cl.args.map a.eval).getD i undef=vs.getD i undef:=by
      have:i<vs.size:=by rw [hvl];exact hlt
      simp [zC,zW,this]
     rw [e1];exact this
    ·rw [if_neg hlt] at hi
     have:=hav (i - cap.length) x hi
     have e1:(vs++cl.args.map a.eval).getD i undef=(cl.args.toList.map a.eval).getD (i - cap.length) undef:=by
      simp [zC,zW,hvl,hlt]
     rw [e1];exact this)
   have hrun:(execOp a.eval o).run P w=.ok (.enter n (vs++cl.args.map a.eval)) w:=by
    unfold callable at hcb
    split at hcb
    ·rename_i fn hfn'
     simp only [x4,xR] at hcb
     have hb:fn.body.isNone=false:=by
      cases hbo:fn.body with
      | none=>rw [hbo] at hcb;exact absurd hcb.2 (by simp)
      | some _=>rfl
     have hnm:¬fn.name = "runtime.NumGoroutine":=by simpa using hcb.1
     have hbb:¬fn.body=none:=by intro h;rw [h] at hb;cases hb
     simp [execOp,ho,resolve,hcal,ef,Deferred.ofValue,invoke,callFunc,hfn',hnm,hbb]
    ·cases hcb
   unfold Oper.wp
   rw [hrun]
   refine hAargs.mono ?_
   rintro e w' ⟨v,r,H',g',rfl,hq,hH',hv,hfr,hgh⟩
   by_cases hin:inIds H' ids news=true
   case neg=>simp [hin] at hq
   simp only [hin,vD] at hq
   obtain ⟨k1,k2⟩:=inIds_inv hin
   have hids:∀id∈ids,∃o,find id H=some o:=fun id hid=>subH_find hH hid
   have hdomf:∀id o,find id H=some o→id∈ids∧find id σ.heap=some o:=fun id o ho=>⟨(hsub id o ho).2,hob id o (hsub id o ho).1⟩
   have hM:∀b,(⟨w,g,H,0,[],[],H,g,w⟩:Ctx).M b→∃id o,id∈ids∧find id σ.heap=some o∧¬g.nil id∧g.ρ id=b:=by
    rintro b ⟨id,o,h1,h2,h3⟩
    exact ⟨id,o,(hdomf id o h1).1,(hdomf id o h1).2,h2,h3⟩
   have hmemE:∀id,id∈ids→id∈(Eff.mk r ids H').ids:=fun id hid=>by simp [Eff.ids,hid]
   refine hF ⟨r,ids,H'⟩ (.inr hq) g' v w' ⟨hfr.os,hfr.tape,hfr.output,hfr.size,fun b hb hb'=>hfr.old b hb fun hm=>?_,fun b hb=>hfr.sup b (.inl hb),fun b hb=>?_,hH'.lt,fun id hid=>hgh id ?_,fun id o ho=>hH'.obj id o (k2 id o ho),fun id o ho hn=>?_,
    fun i j o o' hi hj hni hnj=>hH'.inj i j o o' (k2 i o hi) (k2 j o' hj) hni hnj,fun id o ho hn=>hH'.sep id o (k2 id o ho) hn⟩ (fun id o ho=>?_) hv
   ·obtain ⟨id,o,h1,h2,h3,h4⟩:=hM b hm
    exact hb' id o (hmemE id h1) h2 h3 h4
   ·rcases (hfr.sub b hb).1 with h1|h1|h1
    ·exact .inl h1
    ·exact .inr (.inl h1)
    ·obtain ⟨id,o,h2,h3,h4,h5⟩:=hM b h1
     exact .inr (.inr ⟨id,o,hmemE id h2,h3,h4,h5⟩)
   ·cases hfd:find id H' with
    | none=>rfl
    | some o=>exact absurd (mem_of_find hfd) (hid o)
   ·rcases (hfr.own id o (k2 id o ho) hn).1 with h1|h1
    ·exact .inl h1
    ·obtain ⟨id',o',h2,h3,h4,h5⟩:=hM _ h1
     exact .inr ⟨id',o',hmemE id' h2,h3,h4,h5⟩
   ·rcases k1 id o ho with h1|h1
    ·obtain ⟨o',ho'⟩:=hids id h1
     exact .inl (hfr.par id o' ho')
    ·exact .inr ⟨(hcl id h1).1,fun s x hx=>noEnv_find (hcl id h1).2.1 hx,fun m o' hm _=>noHeap_find (hcl id h1).2.2 hm⟩
  ·exact h.elim
 ·exact h.elim
theorem arr_of {t:TypeId} {cnt k:Nat} (h:arrIs P t cnt k=true):∃e,P.underlying t=some (.array cnt e)∧∀w':World,(Go.sizeOf e).run P w'=.ok k w':=by
 unfold arrIs at h
 split at h<;>try (cases h;done)
 rename_i n e hu
 simp only [x4] at h
 have:=zR h.1;subst this
 exact ⟨e,hu,sizeIs_run h.2⟩
theorem s_aix {n:Option Nat} {k cnt:Nat} {x i:Opd} (hok:(MIns.aix n k cnt x i).ok P o.op=true) (hR:Rel P c g σ a w) {d:Nat} (h:stepV P (.aix n k cnt x i) d [x.ev σ.env,i.ev σ.env] ob K L) (hF:Fin o c g σ a w K L K'):o.wp P a w K' Q':=by
 have:∃t y z,o.op=.index t y z∧x.ok y=true∧i.ok z=true∧arrIs P t cnt k=true∧(match P.underlying t with|some (.array _ e)=>decide (aggN P e=some n)|_=>false)=true:=by
  cases ho:o.op<;>rw [ho] at hok<;>try (simp [MIns.ok] at hok;done)
  simp only [MIns.ok,x4] at hok
  exact ⟨_,_,_,rfl,hok.1.1.1,hok.1.1.2,hok.1.2,hok.2⟩
 obtain ⟨t,y,z,ho,hx,hi,ht,hn⟩:=this
 obtain ⟨e,hu,hsz⟩:=arr_of ht
 rw [hu] at hn
 simp only [xJ] at hn
 have vx:=Opd.vr hR hx
 have vi:=Opd.vr hR hi
 simp only [stepV,sAix] at h
 split at h
 ·rename_i cs kk m hc hm
  rw [hc] at vx;rw [hm] at vi
  obtain ⟨vs,hv,hl,hr⟩:=vx.agg_inv
  obtain ⟨ei,_⟩:=vi.int_inv
  obtain ⟨⟨h0,h1⟩,h⟩:=h
  obtain ⟨off,hoff⟩:∃off,off=m.toNat*k:=⟨_,rfl⟩
  rw [←hoff] at h
  obtain ⟨x',hk,hx'⟩:=part_inv h
  rcases hx' with ⟨rfl,hx'⟩|⟨q,rfl,hq,rfl⟩
  ·have hlt:off<vs.size:=by rw [hl];exact (zG.1 hx').1
   refine fin_val hR hF (v:=vs.getD off undef) ?_ (.inl hk) (hr off x' hx')
   simp [execOp,ho,Instr.index,run_underlying hu,ei,asIntOf,hv,Go.part,aggN_none hn w,zC,hlt,h0,h1,hsz w,←hoff]
  ·obtain ⟨h2,h3⟩:=aggN_some hn
   refine fin_val hR hF (v:=.agg (vs.extract off (off+q))) ?_ (.inl hk) (.agg _ _ (by simp;omega) fun i p hi=>?_)
   ·have hkq:k=q:=by
     have a1:=hsz w
     rw [h3 w] at a1
     cases a1;rfl
    subst hkq
    simp [execOp,ho,Instr.index,run_underlying hu,ei,asIntOf,hv,Go.part,h2 w,h3 w,h0,h1,←hoff]
   ·rw [xG] at hi
    split at hi
    ·rename_i him
     have hi':cs[off+i]?=some p:=by simpa using hi
     have hq:=hr (off+i) p hi'
     have hlt:off+i<vs.size:=by rw [hl];exact (zG.1 hi').1
     have e1:(vs.extract off (off+q)).getD i undef=vs.getD (off+i) undef:=by
      have h3:i<min (off+q) vs.size - off:=by omega
      simp [zC,hlt,h3]
     rw [e1];exact hq
    ·cases hi
 ·exact h.elim
theorem arrParts_get {k:Nat}:∀{vs:List V} {n i:Nat} {q:Nat×Nat×V},(arrParts k n vs)[i]?=some q→∃x,vs[i]?=some x∧q=((n+i)*k,k,x)
 | [],n,i,q,h=>by simp [arrParts] at h
 | x::r,n,i,q,h=>by
  cases i with
  | zero=>simp [arrParts] at h;exact ⟨x,rfl,h.symm⟩
  | succ i =>
   simp [arrParts] at h
   obtain ⟨y,h1,h2⟩:=arrParts_get h
   exact ⟨y,by simpa using h1,by rw [h2];congr 2;omega⟩
theorem arrParts_len {k:Nat}:∀{vs:List V} {n:Nat},(arrParts k n vs).length=vs.length
 | [],_=>rfl
 | x::r,n=>by simp [arrParts,arrParts_len]
theorem s_barr {k:Nat} {zs:List V} {xs:List Opd} (hok:(MIns.barr k zs xs).ok P o.op=true) (hR:Rel P c g σ a w) {d:Nat} (h:stepV P (.barr k zs xs) d (xs.map (·.ev σ.env)) ob K L) (hF:Fin o c g σ a w K L K'):o.wp P a w K' Q':=by
 have:∃t parts n e,o.op=.build t parts∧zeroOK P t zs=true∧P.underlying t=some (.array n e)∧sizeIs P e k=true∧elsOK 0 xs parts.toList=true:=by
  cases ho:o.op<;>rw [ho] at hok<;>try (simp [MIns.ok] at hok;done)
  rename_i t parts
  simp only [MIns.ok,x4] at hok
  obtain ⟨⟨h1,h2⟩,h3⟩:=hok
  split at h2<;>try (cases h2;done)
  rename_i n e hu
  exact ⟨t,parts,n,e,rfl,h1,hu,h2,h3⟩
 obtain ⟨t,parts,n,e,ho,hz,hu,hsz,hp⟩:=this
 obtain ⟨z,hzr,hzl,hzv⟩:=zero_of hz
 obtain ⟨hlen,hparts⟩:=elsOK_inv hp
 simp only [stepV] at h
 split at h
 ·rename_i cs hfill
  obtain ⟨cells',r1,r2,r3⟩:=fill_fillV (g:=g) (w0:=w) (fun i=>some (i*k,k)) (parts.toList.map fun q=>(q.1,a.eval q.2)) (arrParts k 0 (xs.map (·.ev σ.env))) z.cells zs cs (by simp [arrParts_len,hlen])
   (fun i pt q hi hq=>by
    obtain ⟨x,h1,h2⟩:=arrParts_get hq
    rw [xN] at hi h1
    cases hpi:parts.toList[i]? with
    | none=>rw [hpi] at hi;cases hi
    | some p0 =>
     cases hqi:xs[i]? with
     | none=>rw [hqi] at h1;cases h1
     | some q0 =>
      rw [hpi] at hi;rw [hqi] at h1
      simp at hi h1;subst hi;subst h2
      obtain ⟨k1,k2⟩:=hparts i q0 p0 hqi hpi
      refine ⟨by simp [k1],?_⟩
      rw [←h1];exact Opd.vr hR k2)
   hzl (fun i x hx=>.rd (hzv g.S w i x hx).1) hfill
  have hbuild:(Instr.build t (parts.map fun (i,x)=>(i,a.eval x))).run P w=.ok (.agg cells') w:=by
   simp only [Instr.build,wU,hzr w,xK,run_underlying hu,sizeIs_run hsz w]
   have e2:(parts.map fun (i,x)=>(i,a.eval x)).toList=parts.toList.map fun q=>(q.1,a.eval q.2):=by simp
   rw [e2,r1]
   rfl
  refine fin_val hR hF (v:=.agg cells') ?_ (.inl h) (.agg _ _ r2 r3)
  simp only [execOp,ho]
  exact exec_v hbuild
 ·exact h.elim
theorem ins_sound (i:MIns) {d:Nat} (hok:i.ok P o.op=true) (hR:Rel P c g σ a w) (hob:∀id o,ob id=some o→find id σ.heap=some o) (hcl:∀n∈i.creates d,Clean c σ n)
  (h:stepV P i d (i.opds.map (·.ev σ.env)) ob K L) (hF:Fin o c g σ a w K L K'):o.wp P a w K' Q':=by
 cases i with
 | mv x=>exact s_mv hok hR h hF
 | pick c a b=>exact s_pick hok hR h hF
 | alloc zs=>exact s_alloc hok hR (hcl d (by simp [MIns.creates])) h hF
 | box x=>exact s_box hok hR (hcl d (by simp [MIns.creates])) h hF
 | build zs ps =>
  refine s_build (d:=d) (ob:=ob) (L:=L) (K:=K) hok hR ?_ hF
  have:ps.map (fun p=>p.2.2.ev σ.env)=(MIns.build zs ps).opds.map (·.ev σ.env):=by simp [MIns.opds]
  rw [this];exact h
 | bslice k xs uv=>exact s_bslice hok hR (hcl d (by simp [MIns.creates])) h hF
 | ld n a=>exact s_ld hok hR hob h hF
 | st n a v=>exact s_st hok hR hob h hF
 | nck a=>exact s_nck hok hR h hF
 | bin ch op x y=>exact s_bin hok hR h hF
 | mask m x k=>exact s_mask hok hR h hF
 | beq ng x y=>exact s_beq hok hR h hF
 | eqs ng ks x y=>exact s_eqs hok hR h hF
 | not x=>exact s_not hok hR h hF
 | neg ch x=>exact s_neg hok hR h hF
 | i2i ch k x=>exact s_i2i hok hR h hF
 | mkfn f cap=>exact s_mkfn hok hR h hF
 | mksl k bytes z l c=>exact s_mksl hok hR (hcl d (by simp [MIns.creates])) h hF
 | sls x lo hi=>exact s_sls hok hR h hF
 | slc k x lo hi=>exact s_slc hok hR h hF
 | fad off x=>exact s_fad hok hR h hF
 | iad k x i=>exact s_iad hok hR h hF
 | idx x i=>exact s_idx hok hR h hF
 | aix n k cnt x i=>exact s_aix hok hR h hF
 | barr k zs xs=>exact s_barr hok hR h hF
 | lsl k xs=>exact s_lsl hok hR h hF
 | ext i x=>exact s_ext hok hR h hF
 | len s x=>exact s_len hok hR h hF
 | app k bytes x y=>exact s_app hok hR hob (hcl d (by simp [MIns.creates])) h hF
 | mm mx x y=>exact s_mm hok hR h hF
 | mp m xs=>exact s_mp hok hR hob hcl h hF
 | call f args ids news=>exact s_call hok hR hob (fun n hn=>hcl n (by simpa [MIns.creates] using hn)) h hF
end
end Go.Ab
namespace Go.Ab
open Go.RowKit
def Lk (p:Prop):Prop:=p
theorem Lk.mk {p:Prop} (h:p):Lk p:=h
theorem Lk.out {p:Prop} (h:Lk p):p:=h
attribute [irreducible] Lk
structure MOp where
 ins:MIns
 dst:Option Nat
 guard:Option (Nat×Bool)
def dstOK (nt:Nat):Option Nat→Option Nat→Bool
 | none,none=>true
 | some d,some d'=>Nat.beq d d'&&Nat.blt d nt
 | _,_=>false
def beqB:Bool→Bool→Bool
 | true,true=>true
 | false,false=>true
 | _,_=>false
theorem beqB_eq {a b:Bool} (h:beqB a b=true):a=b:=by cases a<;>cases b<;>simp_all [beqB]
def guardOK (ops:Array Oper):Option (Nat×Bool)→Option (Nat×Bool)→Bool
 | none,none=>true
 | some (s,b),some (j,b')=>beqB b b'&&(match ops[j]? with|some o=>(match o.dst with|some d=>Nat.beq s d|none=>false)|none=>false)
 | _,_=>false
def MOp.ok (P:Program) (nt:Nat) (ops:Array Oper) (m:MOp) (o:Oper):Bool:=m.ins.ok P o.op&&dstOK nt m.dst o.dst&&guardOK ops m.guard o.guard
def mopsOK (P:Program) (nt:Nat) (ops:Array Oper):List MOp→List Oper→Bool
 | [],[]=>true
 | m::r,o::s=>m.ok P nt ops o&&mopsOK P nt ops r s
 | _,_=>false
def cleanL (H0:Heap) (σ:St):List Nat→Bool
 | []=>true
 | n::r=>(match find n H0 with|none=>true|some _=>false)&&noEnv n σ.env&&noHeap n σ.heap&&cleanL H0 σ r
theorem cleanL_inv {c:Ctx} {σ:St}:∀{l:List Nat},cleanL c.H0 σ l=true→∀n∈l,Clean c σ n
 | [],_,n,h=>by cases h
 | m::r,h,n,hm=>by
  simp only [cleanL,x4] at h
  obtain ⟨⟨⟨h1,h2⟩,h3⟩,h4⟩:=h
  rcases wO.1 hm with rfl|hm
  ·refine ⟨?_,h2,h3⟩
   cases hf:find n c.H0 with
   | none=>rfl
   | some _=>rw [hf] at h1;cases h1
  ·exact cleanL_inv h4 n hm
def delE (d:Option Nat) (env:List (Nat×V)):List (Nat×V) :=
 match d with
 | some d=>put d (.tup []) env
 | none=>env
def MOp.d (m:MOp):Nat:=m.dst.getD 0
def gfork (b want:Bool) (A B:Prop):Prop:=(b=want→A)∧(b=(!want)→B)
theorem gfork_tt {A B:Prop}:gfork true true A B=A:=by simp [gfork]
theorem gfork_tf {A B:Prop}:gfork true false A B=B:=by simp [gfork]
theorem gfork_ft {A B:Prop}:gfork false true A B=B:=by simp [gfork]
theorem gfork_ff {A B:Prop}:gfork false false A B=A:=by simp [gfork]
def runIns (P:Program) (H0:Heap) (m:MOp) (σ:St) (K:Eff→Prop):Prop :=
 bif cleanL H0 σ (m.ins.creates m.d) then stepV P m.ins m.d (m.ins.opds.map (·.ev σ.env)) (fun id=>find id σ.heap) K (fun e=>Lk (K e)) else False
def runOne (P:Program) (H0:Heap) (m:MOp) (σ:St) (K:St→Prop):Prop :=
 match m.guard with
 | none=>runIns P H0 m σ fun e=>K (σ.app m.dst e)
 | some (s,want) =>
  match get s σ.env with
  | .bool b=>gfork b want (runIns P H0 m ⟨put s (.bool want) σ.env,σ.heap⟩ fun e=>K (St.app ⟨put s (.bool want) σ.env,σ.heap⟩ m.dst e)) (K ⟨delE m.dst (put s (.bool (!want)) σ.env),σ.heap⟩)
  | .tup []=>K ⟨delE m.dst σ.env,σ.heap⟩
  | _=>False
def runN (P:Program) (H0:Heap):List MOp→St→(St→Prop)→Prop
 | [],σ,K=>K σ
 | m::r,σ,K=>runOne P H0 m σ fun σ'=>runN P H0 r σ' K
theorem put_same {α:Type} {n:Nat} {x:α}:∀{l:List (Nat×α)},find n l=some x→put n x l=l
 | (m,y)::r,h=>by
  cases hb:Nat.beq n m with
  | true=>simp only [find,hb,vD,xL] at h;simp [put,hb,h]
  | false=>simp only [find,hb,vB] at h;simp [put,hb,put_same h]
theorem get_bool {s:Nat} {env:List (Nat×V)} {b:Bool} (h:get s env=.bool b):find s env=some (.bool b):=by
 rw [get_find] at h
 cases hf:find s env with
 | none=>rw [hf] at h;cases h
 | some x=>rw [hf] at h;simp at h;rw [h]
section
variable {P:Program} {c:Ctx} {g:Gh} {σ:St} {a:Act} {w:World}
theorem Rel.undef' (h:Rel P c g σ a w) {d:Option Nat} (hd:∀n,d=some n→n<c.nt):Rel P c g ⟨delE d σ.env,σ.heap⟩ (a.put d undef) w:=by
 have:=h.put hd (.tup #[] [] rfl fun i c hc=>by simp at hc:VR g w undef (.tup []))
 cases d<;>exact this
theorem get_tup {s:Nat} {env:List (Nat×V)} (h:get s env=.tup []):find s env=some (.tup []):=by
 rw [get_find] at h
 cases hf:find s env with
 | none=>rw [hf] at h;cases h
 | some x=>rw [hf] at h;simp at h;rw [h]
theorem dstOK_inv {nt:Nat} {d d':Option Nat} (h:dstOK nt d d'=true):d=d'∧∀n,d=some n→n<nt:=by
 cases d<;>cases d'<;>simp [dstOK] at h
 ·exact ⟨rfl,fun n h=>by cases h⟩
 ·refine ⟨by rw [h.1],fun n hn=>by cases hn;exact h.2⟩
theorem guard_wanted {ops:Array Oper} {o:Oper} {s:Nat} {want b:Bool} (hg:guardOK ops (some (s,want)) o.guard=true) (hR:Rel P c g σ a w) (hb:get s σ.env=.bool b) :
  Region.wanted o (yielded ops a.tmps)=beqB b want:=by
 cases hgo:o.guard with
 | none=>rw [hgo] at hg;simp [guardOK] at hg
 | some p =>
  obtain ⟨j,b'⟩:=p
  rw [hgo] at hg
  simp only [guardOK,x4] at hg
  obtain ⟨h1,h2⟩:=hg
  have e1:=beqB_eq h1;subst e1
  have:∃oj,ops[j]?=some oj∧oj.dst=some s:=by
   cases hj:ops[j]? with
   | none=>rw [hj] at h2;cases h2
   | some oj =>
    rw [hj] at h2
    cases hd:oj.dst with
    | none=>simp [hd] at h2
    | some d=>simp [hd] at h2;subst h2;exact ⟨oj,rfl,hd⟩
  obtain ⟨oj,hj,hd⟩:=this
  obtain ⟨hlt,hv⟩:=hR.env s _ (get_bool hb)
  have hbv:=hv.bool_inv
  have hlt':s<a.tmps.size:=by rw [hR.size];exact hlt
  have hy:a.tmps[s]?=some (.bool b):=by
   rw [←hbv];simp [zC,hlt']
  simp only [Region.wanted,hgo,yielded,hj,xU,hd,hy]
  cases b<;>cases want<;>rfl
theorem guard_tup {ops:Array Oper} {o:Oper} {s:Nat} {want:Bool} (hg:guardOK ops (some (s,want)) o.guard=true) (hR:Rel P c g σ a w) (hb:get s σ.env=.tup []):Region.wanted o (yielded ops a.tmps)=false:=by
 cases hgo:o.guard with
 | none=>rw [hgo] at hg;simp [guardOK] at hg
 | some p =>
  obtain ⟨j,b'⟩:=p
  rw [hgo] at hg
  simp only [guardOK,x4] at hg
  obtain ⟨h1,h2⟩:=hg
  have:∃oj,ops[j]?=some oj∧oj.dst=some s:=by
   cases hj:ops[j]? with
   | none=>rw [hj] at h2;cases h2
   | some oj =>
    rw [hj] at h2
    cases hd:oj.dst with
    | none=>simp [hd] at h2
    | some d=>simp [hd] at h2;subst h2;exact ⟨oj,rfl,hd⟩
  obtain ⟨oj,hj,hd⟩:=this
  obtain ⟨hlt,hv⟩:=hR.env s _ (get_tup hb)
  obtain ⟨vs,hv1,hv2,_⟩:=hv.tup_inv
  have hlt':s<a.tmps.size:=by rw [hR.size];exact hlt
  have hy:a.tmps[s]?=some (.tuple vs):=by
   rw [←hv1];simp [zC,hlt']
  simp only [Region.wanted,hgo,yielded,hj,xU,hd,hy]
  rfl
theorem guard_none {ops:Array Oper} {o:Oper} (hg:guardOK ops none o.guard=true) (y:Nat→Option Bool):Region.wanted o y=true:=by
 cases hgo:o.guard with
 | none=>simp [Region.wanted,hgo]
 | some p=>rw [hgo] at hg;simp [guardOK] at hg
theorem runIns_sound {ops:Array Oper} {o:Oper} {m:MOp} {Q:Exit→Act→World→Prop} {K:Eff→Prop} {K':Act→World→Prop} (hok:m.ok P c.nt ops o=true) (hR:Rel P c g σ a w)
  (h:runIns P c.H0 m σ K) (hK:∀eff,K eff→∀(g':Gh) (a':Act) (w':World),Rel P c g' (σ.app m.dst eff) a' w'→K' a' w'):o.wp P a w K' Q:=by
 simp only [MOp.ok,x4] at hok
 obtain ⟨⟨h1,h2⟩,h3⟩:=hok
 obtain ⟨hd,hlt⟩:=dstOK_inv h2
 unfold runIns at h
 cases hc:cleanL c.H0 σ (m.ins.creates m.d) with
 | false=>rw [hc] at h;exact h.elim
 | true =>
  rw [hc] at h
  simp only [vD] at h
  refine ins_sound m.ins (d:=m.d) h1 hR (fun id o h=>h) (cleanL_inv hc) h fun eff he g' v w' hs hf hv=>?_
  have he':K eff:=he.elim id Lk.out
  refine hK eff he' g' _ w' ?_
  rw [←hd]
  exact hR.step hlt hs hf hv
theorem runN_sound {ops:Array Oper} {Q:Exit→Act→World→Prop} {K:St→Prop} (hK:∀σ' g' a' w',K σ'→Rel P c g' σ' a' w'→Q .normal a' w') :
  ∀(ms:List MOp) (i:Nat) (g:Gh) (σ:St) (a:Act) (w:World),mopsOK P c.nt ops ms (ops.toList.drop i)=true→Rel P c g σ a w→runN P c.H0 ms σ K→wpOps P ops Q (List.range' i ms.length) a w
 | [],i,g,σ,a,w,_,hR,h=>hK σ g a w h hR
 | m :: r,i,g,σ,a,w,hok,hR,h=>by
  rw [xX,List.range'_succ,wpOps_cons]
  cases hd:ops.toList.drop i with
  | nil=>rw [hd] at hok;simp [mopsOK] at hok
  | cons o s =>
   rw [hd] at hok
   simp only [mopsOK,x4] at hok
   obtain ⟨hm,hr⟩:=hok
   have hi:ops[i]?=some o:=by
    have:(ops.toList.drop i)[0]?=some o:=by rw [hd];rfl
    rw [xH,wZ,zU] at this
    exact this
   have hs:ops.toList.drop (i+1)=s:=by
    have:=congrArg List.tail hd
    simpa using this
   rw [←hs] at hr
   have ih:=fun g σ a w=>runN_sound hK r (i+1) g σ a w hr
   have hm':=hm
   simp only [MOp.ok,x4] at hm'
   obtain ⟨⟨_,h2⟩,h3⟩:=hm'
   obtain ⟨hdd,hlt⟩:=dstOK_inv h2
   simp only [wpOp,hi]
   simp only [runN,runOne] at h
   cases hg:m.guard with
   | none =>
    rw [hg] at h h3
    simp only [guard_none h3,if_true]
    exact .inl (runIns_sound hm hR h fun eff he g' a' w' hR'=>ih g' _ a' w' hR' he)
   | some p =>
    obtain ⟨t,want⟩:=p
    rw [hg] at h h3
    simp only at h
    split at h
    case h_3=>exact h.elim
    case h_2 hb =>
     rw [guard_tup h3 hR hb]
     simp only [xI,if_false]
     exact ih g _ _ w (by rw [←hdd];exact hR.undef' hlt) h
    rename_i b hb
    obtain ⟨hx,hy⟩:=h
    rw [guard_wanted h3 hR hb]
    have hf:=get_bool hb
    by_cases hbw:b=want
    ·subst hbw
     have hw:beqB b b=true:=by cases b<;>rfl
     simp only [hw,if_true]
     have hx:=hx rfl
     rw [put_same hf] at hx
     exact .inl (runIns_sound hm hR hx fun eff he g' a' w' hR'=>ih g' _ a' w' hR' he)
    ·have hbn:b=(!want):=by cases b<;>cases want<;>first|rfl|exact absurd rfl hbw
     have hw:beqB b want=false:=by rw [hbn];cases want<;>rfl
     simp only [hw,xI,if_false]
     have hy:=hy hbn
     rw [←hbn,put_same hf] at hy
     exact ih g _ _ w (by rw [←hdd];exact hR.undef' hlt) hy
theorem region_ops {ops:Array Oper} {ms:List MOp} {Q:Exit→Act→World→Prop} {K:St→Prop} (hK:∀σ' g' a' w',K σ'→Rel P c g' σ' a' w'→Q .normal a' w')
  (hok:mopsOK P c.nt ops ms ops.toList=true) (hR:Rel P c g σ a w) (h:runN P c.H0 ms σ K):wpOps P ops Q (List.range ops.size) a w:=by
 have hl:∀{ms:List MOp} {l:List Oper},mopsOK P c.nt ops ms l=true→ms.length=l.length:=by
  intro ms
  induction ms with
  | nil =>
   intro l h
   cases l with
   | nil=>rfl
   | cons o s=>cases h
  | cons m r ih =>
   intro l h
   cases l with
   | nil=>cases h
   | cons o s =>
    simp only [mopsOK,x4] at h
    simp only [xX,ih h.2]
 have:=runN_sound hK ms 0 g σ a w (by rw [wL];exact hok) hR h
 rw [hl hok,xB] at this
 rwa [List.range_eq_range']
end
def obOf (h:Heap) (id:Nat):Option Obj':=find id h
theorem mem_iff {n:Nat}:∀{l:List Nat},mem n l=true↔n∈l
 | []=>by simp [mem]
 | m::r=>by
  simp only [mem,wI,wO]
  rw [mem_iff]
  exact or_congr ⟨zR,fun h=>by rw [h];exact wY m⟩ vE
theorem ACall.mono {P:Program} {f:Nat} {args:List V} {H:Heap} {Q Q':V→Heap→Prop} (h:ACall P f args H Q) (hq:∀r H',Q r H'→Q' r H'):ACall P f args H Q' :=
 ⟨h.1,fun g w vals h1 h2 h3=>(h.2 g w vals h1 h2 h3).mono fun _ _ ⟨v,r,H',g',k1,k2,k3⟩=>⟨v,r,H',g',k1,hq _ _ k2,k3⟩⟩
theorem Rel.sub {P:Program} {c:Ctx} {g:Gh} {σ:St} {a:Act} {w:World} {τ:St} (h:Rel P c g σ a w) (he:∀s x,find s τ.env=some x→find s σ.env=some x) (hh:∀s o,find s τ.heap=some o→find s σ.heap=some o):Rel P c g τ a w :=
 ⟨h.size,h.dfr,fun s x hx=>h.env s x (he s x hx),h.hp.sub hh,⟨h.fr.os,h.fr.tape,h.fr.output,h.fr.size,h.fr.old,fun id o ho=>h.fr.own id o (hh id o ho),h.fr.sup,h.fr.sub,h.fr.par⟩⟩
end Go.Ab
namespace Go.Ab
open Go.RowKit
section
variable {K L:V→Prop} {x y z:V}
theorem sPick_at (h:sPick x y z K):∃v,K v∧sPick x y z (fun u=>u=v):=by
  unfold sPick at *
  split at h
  · split at h
    · exact ⟨_,h,rfl⟩
    · rename_i t _ _ _
      cases t
      · exact ⟨_,h,rfl⟩
      · exact ⟨_,h,rfl⟩
  · exact h.elim
theorem part_at {n:Option Nat} {off:Nat} {cs:List V} (h:part n off cs K):∃v,K v∧part n off cs (fun u=>u=v):=by
  unfold part at *
  cases n with
  | none =>
    simp only at h ⊢
    split at h
    · exact ⟨_,h,rfl⟩
    · exact h.elim
  | some n =>
    simp only at h ⊢
    cases hb:Nat.ble (off+n) cs.length with
    | true=>rw [hb] at h;exact ⟨_,h,rfl⟩
    | false=>rw [hb] at h;exact h.elim
theorem sLd_at {n:Option Nat} {ob:Nat→Option Obj'} (h:sLd n x ob K L):∃v,(K v∨L v)∧sLd n x ob (fun u=>u=v) (fun u=>u=v):=by
  cases x<;>try (exact h.elim)
  case ptr id off =>
    cases ho:ob id with
    | none=>simp only [sLd,ho] at h
    | some o =>
      cases o<;>simp only [sLd,ho] at h ⊢
      obtain ⟨v,h1,h2⟩:=part_at h;exact ⟨v,.inl h1,h2⟩
  case eptr y off=>obtain ⟨v,h1,h2⟩:=part_at h;exact ⟨v,.inl h1,h2⟩
  case optr id k i off =>
    cases ho:ob id with
    | none=>simp only [sLd,ho] at h
    | some o =>
      cases o<;>simp only [sLd,ho] at h ⊢
      rename_i k' xs t0
      cases hk:Nat.beq k k' with
      | false=>rw [hk] at h;exact h.elim
      | true =>
        rw [hk] at h
        simp only [vD] at h ⊢
        obtain ⟨q,h1,h2⟩:=h
        obtain ⟨v,h3,h4⟩:=part_at h2
        exact ⟨v,.inr h3,q,h1,h4⟩
theorem sSt_at {n:Nat} {ob:Nat→Option Obj'} {K L:Nat→Obj'→Prop} (h:sSt n x y ob K L):∃id o,(K id o∨L id o)∧sSt n x y ob (fun i p=>i=id∧p=o) (fun i p=>i=id∧p=o):=by
  unfold sSt at *
  cases hc:(Nat.beq y.cells.length n&&y.cells.all V.one) with
  | false=>rw [hc] at h;exact h.elim
  | true =>
    rw [hc] at h
    simp only [vD] at h ⊢
    cases x<;>try (exact h.elim)
    case ptr id off =>
      cases ho:ob id with
      | none=>simp only [ho] at h
      | some o =>
        cases o<;>simp only [ho] at h ⊢
        rename_i cs ty
        cases hb:Nat.ble (off+n) cs.length with
        | false=>rw [hb] at h;exact h.elim
        | true=>rw [hb] at h;exact ⟨_,_,.inl h,rfl,rfl⟩
    case optr id k i off =>
      cases ho:ob id with
      | none=>simp only [ho] at h
      | some o =>
        cases o<;>simp only [ho] at h ⊢
        rename_i k' xs t0
        cases hk:(Nat.beq k k'&&y.sealed) with
        | false=>rw [hk] at h;exact h.elim
        | true =>
          rw [hk] at h
          simp only [vD] at h ⊢
          cases hz:(Nat.beq off 0&&Nat.beq n k) with
          | true=>rw [hz] at h;simp only [vD] at h ⊢;exact ⟨_,_,.inl h.2,h.1,rfl,rfl⟩
          | false =>
            rw [hz] at h;simp only [vB] at h ⊢
            obtain ⟨cs,h1,h2,h3⟩:=h
            exact ⟨_,_,.inr h3,cs,h1,h2,rfl,rfl⟩
theorem sNck_at (h:sNck x K):∃v,K v∧sNck x (fun u=>u=v):=by
  cases x<;>first|exact h.elim|exact ⟨_,h,rfl⟩
theorem sMask_at {m:Nat} {k:IntKind} (h:sMask m k x K):∃v,K v∧sMask m k x (fun u=>u=v):=by
  cases x<;>try (exact h.elim)
  rename_i k' a
  simp only [sMask] at h ⊢
  cases hk:kEq k k' with
  | false=>rw [hk] at h;exact h.elim
  | true=>rw [hk] at h;exact ⟨_,h,rfl⟩
theorem sBeq_at {ng:Bool} (h:sBeq ng x y K):∃v,K v∧sBeq ng x y (fun u=>u=v):=by
  cases x<;>try (exact h.elim)
  cases y<;>try (exact h.elim)
  exact ⟨_,h,rfl⟩
theorem sEqs_at {ng:Bool} {ks:List Nat} (h:sEqs ng ks x y K):∃v,K v∧sEqs ng ks x y (fun u=>u=v):=by
  cases x<;>try (exact h.elim)
  cases y<;>try (exact h.elim)
  rename_i cs ds
  simp only [sEqs] at h ⊢
  cases he:eqCells ks cs ds with
  | none=>rw [he] at h;exact h.elim
  | some t=>rw [he] at h;exact ⟨_,h,rfl⟩
theorem sNot_at (h:sNot x K):∃v,K v∧sNot x (fun u=>u=v):=by
  cases x<;>first|exact h.elim|exact ⟨_,h,rfl⟩
theorem sNeg_at {ch:Bool} (h:sNeg ch x K):∃v,K v∧sNeg ch x (fun u=>u=v):=by
  cases x<;>try (exact h.elim)
  cases ch
  · exact ⟨_,h,rfl⟩
  · exact ⟨_,h.2,h.1,rfl⟩
theorem sI2i_at {ch:Bool} {k:IntKind} (h:sI2i ch k x K):∃v,K v∧sI2i ch k x (fun u=>u=v):=by
  cases x<;>try (exact h.elim)
  cases ch
  · exact ⟨_,h,rfl⟩
  · exact ⟨_,h.2,h.1,rfl⟩
theorem sFad_at {off:Nat} (h:sFad off x K):∃v,K v∧sFad off x (fun u=>u=v):=by
  cases x<;>first|exact h.elim|exact ⟨_,h,rfl⟩
theorem sIdx_at (h:sIdx x y K):∃v,K v∧sIdx x y (fun u=>u=v):=by
  cases x<;>try (exact h.elim)
  cases y<;>try (exact h.elim)
  exact ⟨_,h.2,h.1,rfl⟩
theorem sAix_at {n:Option Nat} {k cnt:Nat} (h:sAix n k cnt x y K):∃v,K v∧sAix n k cnt x y (fun u=>u=v):=by
  cases x<;>try (exact h.elim)
  cases y<;>try (exact h.elim)
  obtain ⟨h1,h2⟩:=h
  obtain ⟨v,h3,h4⟩:=part_at h2
  exact ⟨v,h3,h1,h4⟩
theorem sExt_at {i:Nat} (h:sExt i x K):∃v,K v∧sExt i x (fun u=>u=v):=by
  cases x<;>try (exact h.elim)
  rename_i cs
  simp only [sExt] at h ⊢
  cases hd:cs.drop i with
  | nil=>rw [hd] at h;exact h.elim
  | cons c r=>rw [hd] at h;exact ⟨_,h,rfl⟩
theorem sLen_at {s:Bool} (h:sLen s x K):∃v,K v∧sLen s x (fun u=>u=v):=by
  cases x<;>cases s<;>first|exact h.elim|exact ⟨_,h,rfl⟩
theorem sMm_at {mx:Bool} (h:sMm mx x y K):∃v,K v∧sMm mx x y (fun u=>u=v):=by
  cases x<;>try (exact h.elim)
  cases y<;>try (exact h.elim)
  rename_i k a k' b
  simp only [sMm] at h ⊢
  cases hk:kEq k k' with
  | false=>rw [hk] at h;exact h.elim
  | true=>rw [hk] at h;exact ⟨_,h,rfl⟩
theorem sIad_at {k:Nat} (h:sIad k x y K L):∃v,(K v∨L v)∧sIad k x y (fun u=>u=v) (fun u=>u=v):=by
  cases y<;>try (exact h.elim)
  cases x<;>try (exact h.elim)
  case int.sl =>
    obtain ⟨h1,q,h2,h3,h4⟩:=h
    exact ⟨_,.inr h4,h1,q,h2,h3,rfl⟩
  case int.osl k' n id k2 lo m =>
    simp only [sIad] at h ⊢
    cases hk:Nat.beq k k2 with
    | false=>rw [hk] at h;exact h.elim
    | true=>rw [hk] at h;exact ⟨_,.inl h.2,h.1,rfl⟩
theorem sSls_at {lo hi:Bool} {r:List V} (h:sSls lo hi x r K):∃v,K v∧sSls lo hi x r (fun u=>u=v):=by
  cases x<;>try (exact h.elim)
  rename_i s
  simp only [sSls] at h ⊢
  cases hb:bounds lo hi s.length r with
  | none=>rw [hb] at h;exact h.elim
  | some p=>rw [hb] at h;exact ⟨_,h.2,h.1,rfl⟩
theorem sSlc_at {k:Nat} {lo hi:Bool} {r:List V} (h:sSlc k lo hi x r K):∃v,K v∧sSlc k lo hi x r (fun u=>u=v):=by
  cases x<;>try (exact h.elim)
  case sl xs =>
    simp only [sSlc] at h ⊢
    cases hb:bounds lo hi xs.length r with
    | none=>rw [hb] at h;exact h.elim
    | some p=>rw [hb] at h;exact ⟨_,h.2.2,h.1,h.2.1,rfl⟩
  case osl id k' l n =>
    simp only [sSlc] at h ⊢
    cases hb:bounds lo hi n r with
    | none=>rw [hb] at h;exact h.elim
    | some p =>
      rw [hb] at h
      simp only at h ⊢
      cases hk:Nat.beq k k' with
      | false=>rw [hk] at h;exact h.elim
      | true=>rw [hk] at h;exact ⟨_,h.2,h.1,rfl⟩
theorem sBin_at {ch:Bool} {op:BinOp} (h:sBin ch op x y K):∃v,K v∧sBin ch op x y (fun u=>u=v):=by
  cases x<;>try (exact h.elim)
  case int k a =>
    cases y<;>try (exact h.elim)
    rename_i k' b
    simp only [sBin] at h ⊢
    cases op <;> simp only at h ⊢<;>first
      | exact ⟨_,h.2,h.1,rfl⟩
      | (cases hk:kEq k k'<;>rw [hk] at h<;>first
          | exact h.elim
          | (simp only [vD] at h ⊢
             first
              | exact ⟨_,h,rfl⟩
              | (cases ch
                 · first|exact ⟨_,h,rfl⟩|exact ⟨_,h.2,h.1,rfl⟩
                 · first|exact ⟨_,h,rfl⟩|exact ⟨_,h.2,h.1,rfl⟩)))
  case str a =>
    cases y<;>try (exact h.elim)
    simp only [sBin] at h ⊢
    cases op<;>simp only at h ⊢<;>first|exact ⟨_,h,rfl⟩|exact ⟨_,h.2,h.1,rfl⟩|exact h.elim
end
section
variable {K:Eff→Prop} {x y:V} {d:Nat}
theorem sBox_at (h:sBox d x K):∃v,K v∧sBox d x (fun u=>u=v):=by
  cases x<;>first|exact h.elim|exact ⟨_,h,rfl⟩
theorem sMksl_at {k bytes:Nat} {z:V} (h:sMksl k bytes d z x y K):∃v,K v∧sMksl k bytes d z x y (fun u=>u=v):=by
  unfold sMksl at *
  split at h
  · exact ⟨_,h.2,h.1,rfl⟩
  · exact h.elim
theorem sApp_at {k bytes:Nat} {ty:Option TypeId} {ob:Nat→Option Obj'} (h:sApp k bytes d ty x y ob K):∃v,K v∧sApp k bytes d ty x y ob (fun u=>u=v):=by
  unfold sApp at *
  cases ha:appSrc k y ob with
  | none=>rw [ha] at h;exact h.elim
  | some ys =>
    rw [ha] at h
    simp only at h ⊢
    obtain ⟨h0,h⟩:=h
    cases x<;>try (exact h.elim)
    case nils=>exact ⟨_,h.2,h0,h.1,rfl⟩
    case osl id k' lo n =>
      cases ho:ob id with
      | none=>simp only [ho] at h
      | some o =>
        cases o<;>simp only [ho] at h ⊢
        rename_i k'' xs t0
        cases hk:(Nat.beq k k'&&Nat.beq k k'') with
        | false=>rw [hk] at h;exact h.elim
        | true=>rw [hk] at h;exact ⟨_,h.2,h0,h.1,rfl⟩
theorem ments_at {x:V} {ob:Nat→Option Obj'} {K:KD→List (V×V)→Prop} (h:ments x ob K):∃kd es,K kd es∧∀K':KD→List (V×V)→Prop,K' kd es→ments x ob K':=by
  unfold ments at h
  split at h
  · exact ⟨_,_,h,fun K' h=>h⟩
  · split at h
    · rename_i ho
      refine ⟨_,_,h,fun K' h'=>?_⟩
      simp only [ments,ho];exact h'
    · rename_i ho
      refine ⟨_,_,h,fun K' h'=>?_⟩
      simp only [ments,ho];exact h'
    · exact h.elim
  · exact h.elim
theorem sMap_at {op:MapOp} {d:Nat} {vs:List V} {ob:Nat→Option Obj'} {K L:Eff→Prop} (hn:op≠.nxt) (hn2:∀b,op≠.isn b) (h:sMap op d vs ob K L):∃e,K e∧sMap op d vs ob (fun u=>u=e) (fun u=>u=e):=by
  unfold sMap at h
  split at h
  · exact ⟨_,h,rfl⟩
  · rename_i kd ok z x k
    split at h
    · cases hk:kd.is k with
      | false=>rw [hk] at h;exact h.elim
      | true=>rw [hk] at h;exact ⟨_,h,by simp only [sMap,hk,vD]⟩
    · rename_i m p kd' es
      cases hk:kd.is k&&kd'.is k&&z.isNilS with
      | false=>rw [hk] at h;exact h.elim
      | true=>rw [hk] at h;exact ⟨_,h,by simp only [sMap,hk,vD]⟩
    · rename_i x hx
      obtain ⟨kd',es,h1,h2⟩:=ments_at h
      cases hk:kd.is k&&kd'.is k with
      | false=>rw [hk] at h1;exact h1.elim
      | true =>
        rw [hk] at h1
        refine ⟨_,h1,?_⟩
        simp only [sMap]
        exact h2 _ (by simp only [hk,vD])
  · rename_i kd id k v
    split at h
    · rename_i kd' es ho
      cases hk:kd.is k&&kd'.is k&&v.sealed with
      | false=>rw [hk] at h;exact h.elim
      | true=>rw [hk] at h;exact ⟨_,h,by simp only [sMap,ho,hk,vD]⟩
    · exact h.elim
  · rename_i kd id k
    split at h
    · rename_i kd' es ho
      cases hk:kd.is k&&kd'.is k with
      | false=>rw [hk] at h;exact h.elim
      | true=>rw [hk] at h;exact ⟨_,h,by simp only [sMap,ho,hk,vD]⟩
    · exact h.elim
  · rename_i x
    split at h
    · exact ⟨_,h,rfl⟩
    · rename_i x hx
      obtain ⟨kd',es,h1,h2⟩:=ments_at h
      refine ⟨_,h1.2,?_⟩
      simp only [sMap]
      exact h2 _ ⟨h1.1,rfl⟩
  · split at h
    · exact ⟨_,h,rfl⟩
    · exact ⟨_,h,rfl⟩
    · exact h.elim
  · exact absurd rfl hn
  · split at h
    · rename_i ho;exact ⟨_,h,by simp only [sMap,ho]⟩
    · exact h.elim
  · exact absurd rfl (hn2 _)
  · split at h
    · rename_i ho;exact ⟨_,h,by simp only [sMap,ho]⟩
    · exact h.elim
  · rename_i kd id k j q n
    split at h
    · rename_i kd' es q' xs ty ho ho2
      cases hk:kd.is k&&kd'.is k&&(Nat.beq q q'&&Nat.beq n xs.length&&!Nat.beq id j) with
      | false=>rw [hk] at h;exact h.elim
      | true=>rw [hk] at h;exact ⟨_,h,by simp only [sMap,ho,ho2,hk,vD]⟩
    · rename_i z p kd' es q' xs ty ho ho2
      cases hk:kd.is k&&kd'.is k&&(Nat.beq q q'&&Nat.beq n xs.length&&!Nat.beq id j)&&Nat.beq q p with
      | false=>rw [hk] at h;exact h.elim
      | true=>rw [hk] at h;exact ⟨_,h,by simp only [sMap,ho,ho2,hk,vD]⟩
    · exact h.elim
  · exact ⟨_,h,rfl⟩
  · unfold fnz1 at h
    split at h
    · exact ⟨_,h,rfl⟩
    · exact ⟨_,h,rfl⟩
    · exact h.elim
  · exact h.elim
end
end Go.Ab
namespace Go.Ab
open Go.RowKit
def sCallD (P:Program) (f:V) (args:List V) (ids news:List Nat) (ob:Nat→Option Obj') (L:Eff→Prop):Prop :=
 match f with
 | .fn (.func n) cap=>match subH ids ob with
  | some H=>∃r H',ACall P n (args++cap) H (fun r' H''=>r'=r∧H''=H')∧inIds H' ids news=true∧L ⟨r,ids,H'⟩
  | none=>False
 | .fn (.yield n) fs=>match subH ids ob with
  | some H=>∃r H',ACall P n (fs++args) H (fun r' H''=>r'=r∧H''=H')∧inIds H' ids news=true∧L ⟨r,ids,H'⟩
  | none=>False
 | _=>False
def stepD (P:Program) (i:MIns) (d:Nat) (vs:List V) (ob:Nat→Option Obj') (K L:Eff→Prop):Prop :=
 match i,vs with
 | .call _ _ ids news,f::args=>sCallD P f args ids news ob L
 | .mp .nxt _,_=>False
 | .mp (.isn _) _,_=>False
 | i,vs=>stepV P i d vs ob K L
theorem evl_inj (v:V):(fun r=>evl r=evl v)=fun u=>u=v:=by
 funext r;simp [evl]
theorem eup_inj (id:Nat) (o:Obj'):(fun i p=>eup i p=eup id o)=fun i p=>i=id∧p=o:=by
 funext i p;simp [eup]
theorem step_atom {P:Program} {i:MIns} {d:Nat} {vs:List V} {ob:Nat→Option Obj'} {K L:Eff→Prop} (h:stepD P i d vs ob K L) :
  ∃e,(K e∨L e)∧stepV P i d vs ob (fun u=>u=e) (fun u=>u=e):=by
 cases i with
 | mv x =>
  match vs,h with
  | [y],h=>exact ⟨_,.inl h,rfl⟩
  | [],h=>exact h.elim
  | _::_::_,h=>exact h.elim
 | pick a b c =>
  match vs,h with
  | [x,y,z],h=>obtain ⟨v,h1,h2⟩:=sPick_at (K:=fun x=>K (evl x)) h;exact ⟨evl v,.inl h1,by simp only [stepV,evl_inj];exact h2⟩
  | [],h=>exact h.elim
  | [_],h=>exact h.elim
  | [_,_],h=>exact h.elim
  | _::_::_::_::_,h=>exact h.elim
 | alloc zs=>exact ⟨_,.inl (by simpa only [stepD,stepV] using h),by simp only [stepV]⟩
 | box a =>
  match vs,h with
  | [x],h=>obtain ⟨v,h1,h2⟩:=sBox_at h;exact ⟨v,.inl h1,h2⟩
  | [],h=>exact h.elim
  | _::_::_,h=>exact h.elim
 | build zs ps =>
  simp only [stepD,stepV] at h ⊢
  cases hf:fillV zs ((ps.zip vs).map fun p=>(p.1.1,p.1.2.1,p.2)) with
  | none=>rw [hf] at h;exact h.elim
  | some cs=>rw [hf] at h;exact ⟨_,.inl h,rfl⟩
 | bslice k xs uv =>
  simp only [stepD,stepV] at h ⊢
  cases hf:vs.all (okElem k) with
  | false=>rw [hf] at h;exact h.elim
  | true=>rw [hf] at h;exact ⟨_,.inl h,rfl⟩
 | ld n a =>
  match vs,h with
  | [x],h=>obtain ⟨v,h1,h2⟩:=sLd_at (K:=fun x=>K (evl x)) (L:=fun x=>L (evl x)) h;exact ⟨evl v,h1,by simp only [stepV,evl_inj];exact h2⟩
  | [],h=>exact h.elim
  | _::_::_,h=>exact h.elim
 | st n a b =>
  match vs,h with
  | [x,y],h=>obtain ⟨id,o,h1,h2⟩:=sSt_at (K:=fun i o=>K (eup i o)) (L:=fun i o=>L (eup i o)) h;exact ⟨eup id o,h1,by simp only [stepV,eup_inj];exact h2⟩
  | [],h=>exact h.elim
  | [_],h=>exact h.elim
  | _::_::_::_,h=>exact h.elim
 | nck a =>
  match vs,h with
  | [x],h=>obtain ⟨v,h1,h2⟩:=sNck_at (K:=fun x=>K (evl x)) h;exact ⟨evl v,.inl h1,by simp only [stepV,evl_inj];exact h2⟩
  | [],h=>exact h.elim
  | _::_::_,h=>exact h.elim
 | bin ch op a b =>
  match vs,h with
  | [x,y],h=>obtain ⟨v,h1,h2⟩:=sBin_at (K:=fun x=>K (evl x)) h;exact ⟨evl v,.inl h1,by simp only [stepV,evl_inj];exact h2⟩
  | [],h=>exact h.elim
  | [_],h=>exact h.elim
  | _::_::_::_,h=>exact h.elim
 | mask m a k =>
  match vs,h with
  | [x],h=>obtain ⟨v,h1,h2⟩:=sMask_at (K:=fun x=>K (evl x)) h;exact ⟨evl v,.inl h1,by simp only [stepV,evl_inj];exact h2⟩
  | [],h=>exact h.elim
  | _::_::_,h=>exact h.elim
 | beq ng a b =>
  match vs,h with
  | [x,y],h=>obtain ⟨v,h1,h2⟩:=sBeq_at (K:=fun x=>K (evl x)) h;exact ⟨evl v,.inl h1,by simp only [stepV,evl_inj];exact h2⟩
  | [],h=>exact h.elim
  | [_],h=>exact h.elim
  | _::_::_::_,h=>exact h.elim
 | eqs ng ks a b =>
  match vs,h with
  | [x,y],h=>obtain ⟨v,h1,h2⟩:=sEqs_at (K:=fun x=>K (evl x)) h;exact ⟨evl v,.inl h1,by simp only [stepV,evl_inj];exact h2⟩
  | [],h=>exact h.elim
  | [_],h=>exact h.elim
  | _::_::_::_,h=>exact h.elim
 | not a =>
  match vs,h with
  | [x],h=>obtain ⟨v,h1,h2⟩:=sNot_at (K:=fun x=>K (evl x)) h;exact ⟨evl v,.inl h1,by simp only [stepV,evl_inj];exact h2⟩
  | [],h=>exact h.elim
  | _::_::_,h=>exact h.elim
 | neg ch a =>
  match vs,h with
  | [x],h=>obtain ⟨v,h1,h2⟩:=sNeg_at (K:=fun x=>K (evl x)) h;exact ⟨evl v,.inl h1,by simp only [stepV,evl_inj];exact h2⟩
  | [],h=>exact h.elim
  | _::_::_,h=>exact h.elim
 | i2i ch k a =>
  match vs,h with
  | [x],h=>obtain ⟨v,h1,h2⟩:=sI2i_at (K:=fun x=>K (evl x)) h;exact ⟨evl v,.inl h1,by simp only [stepV,evl_inj];exact h2⟩
  | [],h=>exact h.elim
  | _::_::_,h=>exact h.elim
 | mkfn f cap=>exact ⟨_,.inl (by simpa only [stepD,stepV] using h),by simp only [stepV]⟩
 | mksl k bytes z a b =>
  match vs,h with
  | [x,y],h=>obtain ⟨v,h1,h2⟩:=sMksl_at h;exact ⟨v,.inl h1,h2⟩
  | [],h=>exact h.elim
  | [_],h=>exact h.elim
  | _::_::_::_,h=>exact h.elim
 | sls a lo hi =>
  match vs,h with
  | x::r,h=>obtain ⟨v,h1,h2⟩:=sSls_at (K:=fun x=>K (evl x)) h;exact ⟨evl v,.inl h1,by simp only [stepV,evl_inj];exact h2⟩
  | [],h=>exact h.elim
 | slc k a lo hi =>
  match vs,h with
  | x::r,h=>obtain ⟨v,h1,h2⟩:=sSlc_at (K:=fun x=>K (evl x)) h;exact ⟨evl v,.inl h1,by simp only [stepV,evl_inj];exact h2⟩
  | [],h=>exact h.elim
 | fad off a =>
  match vs,h with
  | [x],h=>obtain ⟨v,h1,h2⟩:=sFad_at (K:=fun x=>K (evl x)) h;exact ⟨evl v,.inl h1,by simp only [stepV,evl_inj];exact h2⟩
  | [],h=>exact h.elim
  | _::_::_,h=>exact h.elim
 | iad k a b =>
  match vs,h with
  | [x,y],h=>obtain ⟨v,h1,h2⟩:=sIad_at (K:=fun x=>K (evl x)) (L:=fun x=>L (evl x)) h;exact ⟨evl v,h1,by simp only [stepV,evl_inj];exact h2⟩
  | [],h=>exact h.elim
  | [_],h=>exact h.elim
  | _::_::_::_,h=>exact h.elim
 | idx a b =>
  match vs,h with
  | [x,y],h=>obtain ⟨v,h1,h2⟩:=sIdx_at (K:=fun x=>K (evl x)) h;exact ⟨evl v,.inl h1,by simp only [stepV,evl_inj];exact h2⟩
  | [],h=>exact h.elim
  | [_],h=>exact h.elim
  | _::_::_::_,h=>exact h.elim
 | aix n k cnt a b =>
  match vs,h with
  | [x,y],h=>obtain ⟨v,h1,h2⟩:=sAix_at (K:=fun x=>K (evl x)) h;exact ⟨evl v,.inl h1,by simp only [stepV,evl_inj];exact h2⟩
  | [],h=>exact h.elim
  | [_],h=>exact h.elim
  | _::_::_::_,h=>exact h.elim
 | barr k zs xs =>
  simp only [stepD,stepV] at h ⊢
  cases hf:fillV zs (arrParts k 0 vs) with
  | none=>rw [hf] at h;exact h.elim
  | some cs=>rw [hf] at h;exact ⟨_,.inl h,rfl⟩
 | lsl k xs =>
  simp only [stepD,stepV] at h ⊢
  cases hf:vs.all (okElem k) with
  | false=>rw [hf] at h;exact h.elim
  | true=>rw [hf] at h;exact ⟨_,.inl h,rfl⟩
 | ext i a =>
  match vs,h with
  | [x],h=>obtain ⟨v,h1,h2⟩:=sExt_at (K:=fun x=>K (evl x)) h;exact ⟨evl v,.inl h1,by simp only [stepV,evl_inj];exact h2⟩
  | [],h=>exact h.elim
  | _::_::_,h=>exact h.elim
 | len s a =>
  match vs,h with
  | [x],h=>obtain ⟨v,h1,h2⟩:=sLen_at (K:=fun x=>K (evl x)) h;exact ⟨evl v,.inl h1,by simp only [stepV,evl_inj];exact h2⟩
  | [],h=>exact h.elim
  | _::_::_,h=>exact h.elim
 | app k bytes a b =>
  match vs,h with
  | [x,y],h=>obtain ⟨v,h1,h2⟩:=sApp_at h;exact ⟨v,.inl h1,h2⟩
  | [],h=>exact h.elim
  | [_],h=>exact h.elim
  | _::_::_::_,h=>exact h.elim
 | mm mx a b =>
  match vs,h with
  | [x,y],h=>obtain ⟨v,h1,h2⟩:=sMm_at (K:=fun x=>K (evl x)) h;exact ⟨evl v,.inl h1,by simp only [stepV,evl_inj];exact h2⟩
  | [],h=>exact h.elim
  | [_],h=>exact h.elim
  | _::_::_::_,h=>exact h.elim
 | mp m xs =>
  by_cases hm:m=.nxt
  ·subst hm;exact h.elim
  ·by_cases hm2:∃b,m=.isn b
   ·obtain ⟨b,rfl⟩:=hm2;exact h.elim
   ·have h':sMap m d vs ob K L:=by
     cases m<;>first|exact h|exact absurd rfl hm|exact absurd ⟨_,rfl⟩ hm2
    obtain ⟨e,h1,h2⟩:=sMap_at hm (fun b e=>hm2 ⟨b,e⟩) h'
    exact ⟨e,.inl h1,h2⟩
 | call f args ids news =>
  match vs,h with
  | [],h=>exact h.elim
  | g::r,h =>
   simp only [stepD,sCallD] at h
   split at h
   ·split at h
    ·rename_i n cap H hH
     obtain ⟨r',H',h1,h2,h3⟩:=h
     refine ⟨_,.inr h3,?_⟩
     simp only [stepV,sCall,hH]
     exact h1.mono fun r2 H2 ⟨e1,e2⟩=>by subst e1;subst e2;simp only [h2,vD]
    ·exact h.elim
   ·split at h
    ·rename_i n cap H hH
     obtain ⟨r',H',h1,h2,h3⟩:=h
     refine ⟨_,.inr h3,?_⟩
     simp only [stepV,sCall,hH]
     exact h1.mono fun r2 H2 ⟨e1,e2⟩=>by subst e1;subst e2;simp only [h2,vD]
    ·exact h.elim
   ·exact h.elim
theorem subH_ob {ob ob':Nat→Option Obj'}:∀{ids:List Nat},(∀id∈ids,ob id=ob' id)→subH ids ob=subH ids ob'
 | [],_=>rfl
 | n::r,h=>by
  have h1:=h n xE
  have h2:=subH_ob (ids:=r) fun id hid=>h id (z7 _ hid)
  simp only [subH,h1,h2]
theorem appSrc_ob {ob ob':Nat→Option Obj'} {k:Nat} {y:V} (h:∀id∈vid y,ob id=ob' id):appSrc k y ob=appSrc k y ob':=by
 cases y<;>try rfl
 rename_i id k' lo n
 have:=h id (by simp [vid])
 simp only [appSrc,this]
theorem ments_ob {ob ob':Nat→Option Obj'} {x:V} {K:KD→List (V×V)→Prop} (h:∀id∈vid x,ob id=ob' id):ments x ob K=ments x ob' K:=by
 cases x<;>try rfl
 rename_i id
 have:=h id (by simp [vid])
 simp only [ments,this]
theorem sMap_ob {ob ob':Nat→Option Obj'} {op:MapOp} {xs:List Opd} {d:Nat} {vs:List V} {K L:Eff→Prop} (h:∀id∈(MIns.mp op xs).touch vs,ob id=ob' id):sMap op d vs ob K L=sMap op d vs ob' K L:=by
 unfold sMap
 split
 ·rfl
 ·split
  ·rfl
  ·rfl
  ·exact ments_ob fun id hid=>h id (by simpa [MIns.touch] using hid)
 ·have:=h _ (by simp [MIns.touch,vid];rfl)
  simp only [this]
 ·have:=h _ (by simp [MIns.touch,vid];rfl)
  simp only [this]
 ·split
  ·rfl
  ·exact ments_ob fun id hid=>h id (by simpa [MIns.touch] using hid)
 ·rfl
 ·have:=h _ (by simp [MIns.touch,vid];rfl)
  simp only [this]
 ·have:=h _ (by simp [MIns.touch,vid];rfl)
  simp only [this]
 ·rfl
 ·rfl
 ·rename_i kd id k j q n
  have h1:=h id (by simp [MIns.touch,vid])
  have h2:=h j (by simp [MIns.touch,vid])
  simp only [h1,h2]
 ·rfl
 ·rfl
 ·rfl
theorem stepV_ob {P:Program} {i:MIns} {d:Nat} {vs:List V} {ob ob':Nat→Option Obj'} {K L:Eff→Prop} (ht:∀id∈i.touch vs,ob id=ob' id) (h:stepV P i d vs ob K L):stepV P i d vs ob' K L:=by
 cases i with
 | ld n a =>
  rcases vs with _|⟨x,_|⟨y,r⟩⟩
  ·exact h.elim
  ·change sLd n x ob _ _ at h
   change sLd n x ob' _ _
   cases x<;>try exact h
   ·rename_i id off
    have:=ht id (by simp [MIns.touch,vid])
    simp only [sLd,this] at h ⊢;exact h
   ·rename_i id k i off
    have:=ht id (by simp [MIns.touch,vid])
    simp only [sLd,this] at h ⊢;exact h
  ·exact h.elim
 | st n a b =>
  rcases vs with _|⟨x,_|⟨y,_|⟨z,r⟩⟩⟩
  ·exact h.elim
  ·exact h.elim
  ·change sSt n x y ob (fun id o=>K (eup id o)) (fun id o=>L (eup id o)) at h
   change sSt n x y ob' (fun id o=>K (eup id o)) (fun id o=>L (eup id o))
   cases x<;>try exact h
   ·rename_i id off
    have:=ht id (by simp [MIns.touch,vid])
    simp only [sSt,this] at h ⊢;exact h
   ·rename_i id k i off
    have:=ht id (by simp [MIns.touch,vid])
    simp only [sSt,this] at h ⊢;exact h
  ·exact h.elim
 | app k bytes a b ty =>
  rcases vs with _|⟨x,_|⟨y,_|⟨z,r⟩⟩⟩
  ·exact h.elim
  ·exact h.elim
  ·change sApp k bytes d ty x y ob _ at h
   change sApp k bytes d ty x y ob' _
   have hy:=appSrc_ob (k:=k) (ob:=ob) (ob':=ob') (y:=y) fun id hid=>ht id (by simp [MIns.touch,hid])
   unfold sApp at h ⊢
   rw [←hy]
   cases ha:appSrc k y ob with
   | none=>rw [ha] at h;exact h
   | some ys =>
    rw [ha] at h
    simp only at h ⊢
    obtain ⟨h0,h⟩:=h
    refine ⟨h0,?_⟩
    cases x<;>try exact h
    rename_i id k' lo n
    have:=ht id (by simp [MIns.touch,vid])
    simp only [this] at h ⊢;exact h
  ·exact h.elim
 | call f args ids news =>
  rcases vs with _|⟨x,r⟩
  ·exact h.elim
  ·change sCall P x r ids news ob _ at h
   change sCall P x r ids news ob' _
   have:=subH_ob (ids:=ids) (ob:=ob) (ob':=ob') fun id hid=>ht id (by simpa [MIns.touch] using hid)
   unfold sCall at h ⊢
   rw [this] at h
   exact h
 | mp m xs =>
  change sMap m d vs ob K L at h
  change sMap m d vs ob' K L
  rwa [sMap_ob (xs:=xs) (ob:=ob) (ob':=ob') ht] at h
 | alloc zs=>simp only [stepV] at h ⊢;exact h
 | mkfn f cap=>simp only [stepV] at h ⊢;exact h
 | build zs ps=>simp only [stepV] at h ⊢;exact h
 | bslice k xs uv=>simp only [stepV] at h ⊢;exact h
 | barr k zs xs=>simp only [stepV] at h ⊢;exact h
 | lsl k xs=>simp only [stepV] at h ⊢;exact h
 | sls a lo hi=>rcases vs with _|⟨x,r⟩<;>exact h
 | slc k a lo hi=>rcases vs with _|⟨x,r⟩<;>exact h
 | _=>rcases vs with _|⟨x,_|⟨y,_|⟨z,_|⟨u,r⟩⟩⟩⟩<;>exact h
end Go.Ab
namespace Go.Ab
open Go.RowKit
structure Ent where
 dst:Option Nat
 eff:Option Eff
 uses:List Nat
 touch:List Nat
 made:List Nat
def Ent.app (e:Ent) (σ:St):St :=
 match e.eff with
 | some f=>σ.app e.dst f
 | none=>⟨delE e.dst σ.env,σ.heap⟩
def Ent.ids (e:Ent):List Nat :=
 match e.eff with
 | some f=>f.ids
 | none=>[]
def slotsOf:List Opd→List Nat
 | []=>[]
 | .t n::r=>n::slotsOf r
 | _::r=>slotsOf r
def insD (P:Program) (H0:Heap) (m:MOp) (σ:St) (gs:List Nat) (k:Ent→Prop):Prop :=
 bif cleanL H0 σ (m.ins.creates m.d) then
  stepD P m.ins m.d (m.ins.opds.map (·.ev σ.env)) (obOf σ.heap) (fun f=>k ⟨m.dst,some f,gs++slotsOf m.ins.opds,m.ins.touch (m.ins.opds.map (·.ev σ.env)),m.ins.creates m.d⟩)
   (fun f=>k ⟨m.dst,some f,gs++slotsOf m.ins.opds,m.ins.touch (m.ins.opds.map (·.ev σ.env)),m.ins.creates m.d⟩)
 else False
def runD (P:Program) (H0:Heap):List MOp→List Ent→St→(List Ent→St→Prop)→Prop
 | [],log,σ,K=>K log σ
 | m :: r,log,σ,K =>
  match m.guard with
  | none=>insD P H0 m σ [] fun e=>runD P H0 r (e::log) (e.app σ) K
  | some (s,want) =>
   match get s σ.env with
   | .bool b=>gfork b want (insD P H0 m ⟨put s (.bool want) σ.env,σ.heap⟩ [s] fun e=>runD P H0 r (e::log) (e.app ⟨put s (.bool want) σ.env,σ.heap⟩) K)
     (runD P H0 r (⟨m.dst,none,[s],[],[]⟩::log) (Ent.app ⟨m.dst,none,[s],[],[]⟩ ⟨put s (.bool (!want)) σ.env,σ.heap⟩) K)
   | .tup []=>runD P H0 r (⟨m.dst,none,[s],[],[]⟩::log) (Ent.app ⟨m.dst,none,[s],[],[]⟩ σ) K
   | _=>False
def noMen (x:Ent):List Nat→Bool
 | []=>true
 | n::r=>(match x.eff with|some f=>!f.val.has n&&noHeap n f.new|none=>true)&&noMen x r
def disj:List Nat→List Nat→Bool
 | [],_=>true
 | n::r,l=>!mem n l&&disj r l
def oneOf (d:Option Nat) (l:List Nat):Bool :=
 match d with
 | some n=>mem n l
 | none=>false
def apart (x y:Ent):Bool :=
 !oneOf x.dst y.uses&&!oneOf y.dst x.uses&&(match x.dst,y.dst with|some a,some b=>!Nat.beq a b|_,_=>true)&&disj x.ids y.touch&&disj y.ids x.touch&&disj x.ids y.ids
def loneN (i d:Nat):List Ent→Nat
 | []=>0
 | z::r=>(bif mem i z.ids||mem d z.ids then 1 else 0)+loneN i d r
def late (r:List Ent) (x y:Ent):Bool :=
 !oneOf x.dst y.uses&&!oneOf y.dst x.uses&&(match x.dst,y.dst with|some a,some b=>!Nat.beq a b|_,_=>true)&&disj x.ids y.touch&&disj x.ids y.ids &&
  match y.eff with
  | some f=>match f.drop,f.new with
   | [i],[(d,_)]=>!mem d x.touch&&Nat.ble (loneN i d r) 1&&!Nat.beq i d
   | _,_=>false
  | none=>false
def pairOK (ord lat:Bool) (r:List Ent) (x y:Ent):Bool:=noMen x y.made&&(ord||((apart x y||(lat&&late r x y))&&noMen y x.made))
def chkOne (i:Nat) (x:Ent) (all:List Ent):List (List Nat)→List Ent→Bool
 | _,[]=>true
 | a::anc,y::r=>pairOK (Nat.blt i 1000000&&mem i a) (mem (1000000+i) a) all x y&&chkOne i x all anc r
 | [],_::_=>false
def chkAll (H0:Heap) (σ:St):Nat→List (List Nat)→List Ent→Bool
 | _,_,[]=>true
 | i,_::anc,x::r=>cleanL H0 σ x.made&&chkOne i x r anc r&&chkAll H0 σ (i+1) anc r
 | _,[],_::_=>false
def MIns.isLd:MIns→Bool
 | .ld ..=>true
 | _=>false
def MIns.isApp:MIns→Bool
 | .app ..=>true
 | _=>false
def lateRow (all:List MOp) (m:MOp):List Nat→Bool
 | []=>true
 | x::r=>(Nat.blt x 1000000||(m.ins.isApp&&(match all[x - 1000000]? with|some l=>l.ins.isLd|none=>false)))&&lateRow all m r
def lateOK (all:List MOp):List MOp→List (List Nat)→Bool
 | m::r,a::s=>lateRow all m a&&lateOK all r s
 | _,_=>true
def ancRow (aft:List Nat) (anc:List (List Nat)):List Nat→Bool
 | []=>true
 | k::r=>(Nat.ble 1000000 k||mem k aft||aft.any fun l=>mem k (anc.getD l []))&&ancRow aft anc r
def below (j:Nat):List Nat→Bool
 | []=>true
 | k::r=>Nat.blt k j&&below j r
def ancOK (all:List (List Nat)):Nat→List (List Nat)→List (List Nat)→Bool
 | _,[],[]=>true
 | j,a::aft,b::anc=>below j a&&ancRow a all b&&ancOK all (j+1) aft anc
 | _,_,_=>false
def natsEq:List Nat→List Nat→Bool
 | [],[]=>true
 | a::r,b::s=>Nat.beq a b&&natsEq r s
 | _,_=>false
def aftOK:List (List Nat)→List Oper→Bool
 | [],[]=>true
 | a::r,o::s=>natsEq a ((o.after.toList.filter (Region.binds .any)).map (·.on))&&aftOK r s
 | _,_=>false
def Ran (P:Program) (H0:Heap) (m:MOp) (e:Ent) (σ:St) (gs:List Nat):Prop :=
 ∃f,e.eff=some f∧stepV P m.ins m.d (m.ins.opds.map (·.ev σ.env)) (obOf σ.heap) (fun u=>u=f) (fun u=>u=f)∧e.uses=gs++slotsOf m.ins.opds ∧
  e.touch=m.ins.touch (m.ins.opds.map (·.ev σ.env))∧e.made=m.ins.creates m.d
def Ev (P:Program) (H0:Heap) (m:MOp) (e:Ent) (σ:St):Prop :=
 e.dst=m.dst∧((m.guard=none∧Ran P H0 m e σ [])∨(∃s want b,m.guard=some (s,want)∧get s σ.env=.bool b∧s∈e.uses∧((b=want∧Ran P H0 m e σ [s])∨(b=(!want)∧e.eff=none)))∨∃s want,m.guard=some (s,want)∧get s σ.env=.tup []∧s∈e.uses∧e.eff=none)
def Evs (P:Program) (H0:Heap):List MOp→List Ent→St→Prop
 | [],[],_=>True
 | m::r,e::s,σ=>Ev P H0 m e σ∧Evs P H0 r s (e.app σ)
 | _,_,_=>False
def foldA:List Ent→St→St
 | [],σ=>σ
 | e::r,σ=>foldA r (e.app σ)
theorem insD_ran {P:Program} {H0:Heap} {m:MOp} {σ:St} {gs:List Nat} {k:Ent→Prop} (h:insD P H0 m σ gs k):∃e,e.dst=m.dst∧Ran P H0 m e σ gs∧k e:=by
 unfold insD at h
 cases hc:cleanL H0 σ (m.ins.creates m.d) with
 | false=>rw [hc] at h;exact h.elim
 | true =>
  rw [hc] at h
  simp only [vD] at h
  obtain ⟨f,h1,h2⟩:=step_atom h
  exact ⟨_,rfl,⟨f,rfl,h2,rfl,rfl,rfl⟩,h1.elim id id⟩
theorem runD_evs {P:Program} {H0:Heap} {K:List Ent→St→Prop}:∀{ms:List MOp} {log:List Ent} {σ:St},runD P H0 ms log σ K→∃es,Evs P H0 ms es σ∧K (es.reverse++log) (foldA es σ)
 | [],log,σ,h=>⟨[],trivial,by simpa [foldA,runD] using h⟩
 | m::r,log,σ,h=>by
  simp only [runD] at h
  cases hg:m.guard with
  | none =>
   rw [hg] at h
   obtain ⟨e,h1,h2,h3⟩:=insD_ran h
   obtain ⟨es,h4,h5⟩:=runD_evs h3
   exact ⟨e::es,⟨⟨h1,.inl ⟨hg,h2⟩⟩,h4⟩,by simpa [foldA] using h5⟩
  | some p =>
   obtain ⟨s,want⟩:=p
   rw [hg] at h
   simp only at h
   split at h
   case h_3=>exact h.elim
   case h_2 hb =>
    obtain ⟨es,h4,h5⟩:=runD_evs h
    exact ⟨_::es,⟨⟨rfl,.inr (.inr ⟨s,want,hg,hb,by simp,rfl⟩)⟩,h4⟩,by simpa [foldA] using h5⟩
   rename_i b hb
   obtain ⟨hx,hy⟩:=h
   have hf:=get_bool hb
   by_cases hbw:b=want
   ·subst hbw
    have hx:=hx rfl
    rw [put_same hf] at hx
    obtain ⟨e,h1,h2,h3⟩:=insD_ran hx
    obtain ⟨es,h4,h5⟩:=runD_evs h3
    obtain ⟨f,k1,k2,k3,k4,k5⟩:=h2
    exact ⟨e::es,⟨⟨h1,.inr (.inl ⟨s,b,b,hg,hb,by rw [k3];simp,.inl ⟨rfl,f,k1,k2,k3,k4,k5⟩⟩)⟩,h4⟩,by simpa [foldA] using h5⟩
   ·have hbn:b=(!want):=by cases b<;>cases want<;>first|rfl|exact absurd rfl hbw
    have hy:=hy hbn
    rw [←hbn,put_same hf] at hy
    obtain ⟨es,h4,h5⟩:=runD_evs hy
    exact ⟨_::es,⟨⟨rfl,.inr (.inl ⟨s,want,b,hg,hb,by simp,.inr ⟨hbn,rfl⟩⟩)⟩,h4⟩,by simpa [foldA] using h5⟩
def fold (E:Nat→Bool):Nat→List Ent→St→St
 | _,[],σ=>σ
 | i,e::r,σ=>fold E (i+1) r (bif E i then e.app σ else σ)
def Ent.wr (e:Ent) (s:Nat):Prop:=e.dst=some s
theorem app_env {e:Ent} {σ:St} {s:Nat}:find s (e.app σ).env=if e.dst=some s then (match e.eff with|some f=>some f.val|none=>some (.tup [])) else find s σ.env:=by
 unfold Ent.app
 cases he:e.eff with
 | some f =>
  cases hd:e.dst with
  | none=>simp [St.app,setE]
  | some d =>
   simp only [St.app,setE,find_put,xL]
   by_cases h:s=d
   ·simp [h]
   ·have:¬d=s:=fun e=>h e.symm
    simp [h,this]
 | none =>
  cases hd:e.dst with
  | none=>simp [delE]
  | some d =>
   simp only [delE,find_put,xL]
   by_cases h:s=d
   ·simp [h]
   ·have:¬d=s:=fun e=>h e.symm
    simp [h,this]
theorem puts_congr {n:Nat}:∀{l:List (Nat×Obj')} {H H':Heap},(find n H=find n H'∨∃o,(n,o)∈l)→find n (puts l H)=find n (puts l H')
 | [],H,H',h=>by
  rcases h with h|⟨o,h⟩
  ·exact h
  ·cases h
 | (m,o)::r,H,H',h=>by
  simp only [puts]
  refine puts_congr ?_
  rw [find_put,find_put]
  by_cases e:n=m
  ·exact .inl (by simp [e])
  ·rcases h with h|⟨o',h⟩
   ·exact .inl (by simp [e,h])
   ·rcases wO.1 h with h|h
    ·cases h;exact absurd rfl e
    ·exact .inr ⟨o',h⟩
theorem eff_heap_in {f:Eff} {n:Nat} {H H':Heap} (h:n∈f.ids):find n (f.heap H)=find n (f.heap H'):=by
 unfold Eff.heap
 refine puts_congr ?_
 simp only [Eff.ids,wD,w4] at h
 rcases h with h|⟨p,hp,rfl⟩
 ·exact .inl (by rw [find_dels,find_dels];simp [h])
 ·exact .inr ⟨p.2,hp⟩
theorem eff_heap_out {f:Eff} {n:Nat} {H:Heap} (h:n∉f.ids):find n (f.heap H)=find n H:=by
 unfold Eff.heap
 simp only [Eff.ids,wD,w4,not_or,not_exists,not_and] at h
 rw [find_puts_not (fun o ho=>h.2 (n,o) ho rfl),find_dels]
 simp [h.1]
theorem app_heap_in {e:Ent} {σ τ:St} {n:Nat} (h:n∈e.ids):find n (e.app σ).heap=find n (e.app τ).heap:=by
 unfold Ent.app
 cases he:e.eff with
 | some f=>exact eff_heap_in (by simpa [Ent.ids,he] using h)
 | none=>simp [Ent.ids,he] at h
theorem app_heap_out {e:Ent} {σ:St} {n:Nat} (h:n∉e.ids):find n (e.app σ).heap=find n σ.heap:=by
 unfold Ent.app
 cases he:e.eff with
 | some f=>exact eff_heap_out (by simpa [Ent.ids,he] using h)
 | none=>rfl
theorem fold_env {E E':Nat→Bool} {s:Nat}:∀{es:List Ent} {i:Nat} {σ τ:St},find s σ.env=find s τ.env→(∀k e,es[k]?=some e→E (i+k)≠E' (i+k)→e.dst≠some s) →
  find s (fold E i es σ).env=find s (fold E' i es τ).env
 | [],i,σ,τ,h,_=>h
 | e::r,i,σ,τ,h,hk=>by
  simp only [fold]
  refine fold_env ?_ fun k e' hk' hne=>hk (k+1) e' (by simpa using hk') (by rw [show i+(k+1)=i+1+k from by omega];exact hne)
  have h0:=hk 0 e rfl
  rw [wZ] at h0
  cases hE:E i<;>cases hE':E' i<;>simp only [vD,vB]
  ·exact h
  ·rw [app_env,if_neg (h0 (by simp [hE,hE']))];exact h
  ·rw [app_env,if_neg (h0 (by simp [hE,hE']))];exact h
  ·rw [app_env,app_env,h]
theorem fold_heap {E E':Nat→Bool} {n:Nat}:∀{es:List Ent} {i:Nat} {σ τ:St},find n σ.heap=find n τ.heap→(∀k e,es[k]?=some e→E (i+k)≠E' (i+k)→n∉e.ids) →
  find n (fold E i es σ).heap=find n (fold E' i es τ).heap
 | [],i,σ,τ,h,_=>h
 | e::r,i,σ,τ,h,hk=>by
  simp only [fold]
  refine fold_heap ?_ fun k e' hk' hne=>hk (k+1) e' (by simpa using hk') (by rw [show i+(k+1)=i+1+k from by omega];exact hne)
  have h0:=hk 0 e rfl
  rw [wZ] at h0
  cases hE:E i<;>cases hE':E' i<;>simp only [vD,vB]
  ·exact h
  ·rw [app_heap_out (h0 (by simp [hE,hE']))];exact h
  ·rw [app_heap_out (h0 (by simp [hE,hE']))];exact h
  ·by_cases hm:n∈e.ids
   ·exact app_heap_in hm
   ·rw [app_heap_out hm,app_heap_out hm];exact h
theorem fold_env_last {E:Nat→Bool} {s j:Nat} {e:Ent}:∀{es:List Ent} {i:Nat} {σ τ:St},es[j]?=some e→E (i+j)=true→e.dst=some s→(∀k e',es[k]?=some e'→j<k→E (i+k)=true→e'.dst≠some s) →
  find s (fold E i es σ).env=find s (e.app τ).env
 | [],i,σ,τ,h,_,_,_=>by simp at h
 | e0::r,i,σ,τ,h,hE,hd,hk=>by
  simp only [fold]
  cases j with
  | zero =>
   simp at h;subst h
   rw [wZ] at hE
   rw [hE,vD]
   have:find s (fold E (i+1) r (e0.app σ)).env=find s (fold (fun _=>false) (i+1) r (e0.app σ)).env :=
    fold_env rfl fun k e' hk' hne=>hk (k+1) e' (by simpa using hk') (by omega) (by rw [show i+(k+1)=i+1+k from by omega];simpa using hne)
   rw [this]
   have none':∀(l:List Ent) (i:Nat) (σ:St),fold (fun _=>false) i l σ=σ:=by
    intro l
    induction l with
    | nil=>intro i σ;rfl
    | cons a l ih=>intro i σ;simp only [fold,vB];exact ih _ _
   rw [none',app_env,app_env,if_pos hd,if_pos hd]
  | succ j =>
   exact fold_env_last (by simpa using h) (by rw [show i+1+j=i+(j+1) from by omega];exact hE) hd fun k e' hk' hlt he=>hk (k+1) e' (by simpa using hk') (by omega) (by rw [show i+(k+1)=i+1+k from by omega];exact he)
theorem fold_heap_last {E:Nat→Bool} {n j:Nat} {e:Ent}:∀{es:List Ent} {i:Nat} {σ τ:St},es[j]?=some e→E (i+j)=true→n∈e.ids→(∀k e',es[k]?=some e'→j<k→E (i+k)=true→n∉e'.ids) →
  find n (fold E i es σ).heap=find n (e.app τ).heap
 | [],i,σ,τ,h,_,_,_=>by simp at h
 | e0::r,i,σ,τ,h,hE,hd,hk=>by
  simp only [fold]
  cases j with
  | zero =>
   simp at h;subst h
   rw [wZ] at hE
   rw [hE,vD]
   have:find n (fold E (i+1) r (e0.app σ)).heap=find n (fold (fun _=>false) (i+1) r (e0.app σ)).heap :=
    fold_heap rfl fun k e' hk' hne=>hk (k+1) e' (by simpa using hk') (by omega) (by rw [show i+(k+1)=i+1+k from by omega];simpa using hne)
   rw [this]
   have none':∀(l:List Ent) (i:Nat) (σ:St),fold (fun _=>false) i l σ=σ:=by
    intro l
    induction l with
    | nil=>intro i σ;rfl
    | cons a l ih=>intro i σ;simp only [fold,vB];exact ih _ _
   rw [none']
   exact app_heap_in hd
  | succ j =>
   exact fold_heap_last (by simpa using h) (by rw [show i+1+j=i+(j+1) from by omega];exact hE) hd fun k e' hk' hlt he=>hk (k+1) e' (by simpa using hk') (by omega) (by rw [show i+(k+1)=i+1+k from by omega];exact he)
theorem fold_all:∀{es:List Ent} {E:Nat→Bool} {i:Nat} {σ:St},(∀k,k<es.length→E (i+k)=true)→fold E i es σ=foldA es σ
 | [],_,_,_,_=>rfl
 | e::r,E,i,σ,h=>by
  have h0:=h 0 (by simp)
  rw [wZ] at h0
  simp only [fold,foldA,h0,vD]
  exact fold_all fun k hk=>by
   have:=h (k+1) (by simpa using hk)
   rw [show i+(k+1)=i+1+k from by omega] at this;exact this
theorem fold_none:∀{es:List Ent} {E:Nat→Bool} {i:Nat} {σ:St},(∀k,E (i+k)=false)→fold E i es σ=σ
 | [],_,_,_,_=>rfl
 | e::r,E,i,σ,h=>by
  have h0:=h 0
  rw [wZ] at h0
  simp only [fold,h0,vB]
  exact fold_none fun k=>by
   have:=h (k+1)
   rw [show i+(k+1)=i+1+k from by omega] at this;exact this
theorem blt_iff {a b:Nat}:Nat.blt a b=true↔a<b:=by
 unfold Nat.blt;exact ⟨zQ,Nat.ble_eq_true_of_le⟩
theorem evs_at {P:Program} {H0:Heap}:∀{ms:List MOp} {es:List Ent} {i k:Nat} {σ:St} {m:MOp} {e:Ent},Evs P H0 ms es σ→ms[k]?=some m→es[k]?=some e→Ev P H0 m e (fold (fun j=>decide (j<i+k)) i es σ)
 | [],[],_,k,_,_,_,_,h,_=>by simp at h
 | m0::r,e0::s,i,0,σ,m,e,h,hm,he=>by
  simp at hm he;subst hm;subst he
  rw [fold_none (fun k=>by simp)]
  exact h.1
 | m0::r,e0::s,i,k+1,σ,m,e,h,hm,he=>by
  have ih:=evs_at (i:=i+1) (k:=k) h.2 (by simpa using hm) (by simpa using he)
  have hE:decide (i<i+(k+1))=true:=by simp
  simp only [fold,hE,vD]
  rw [show i+(k+1)=i+1+k from by omega]
  exact ih
 | [],_::_,_,_,_,_,_,h,_,_=>h.elim
 | _::_,[],_,_,_,_,_,h,_,_=>h.elim
theorem evs_len {P:Program} {H0:Heap}:∀{ms:List MOp} {es:List Ent} {σ:St},Evs P H0 ms es σ→es.length=ms.length
 | [],[],_,_=>rfl
 | _::_,_::_,_,h=>by simp [evs_len h.2]
 | [],_::_,_,h=>h.elim
 | _::_,[],_,h=>h.elim
theorem disj_inv {l q:List Nat} (h:disj l q=true) {n:Nat} (h1:n∈l) (h2:n∈q):False:=by
 induction l with
 | nil=>cases h1
 | cons m r ih =>
  simp only [disj,x4,xR] at h
  rcases wO.1 h1 with rfl|h1
  ·have:=mem_iff.2 h2;rw [h.1] at this;cases this
  ·exact ih h.2 h1
structure Apart (x y:Ent):Prop where
 du:∀d,x.dst=some d→d∉y.uses
 ud:∀d,y.dst=some d→d∉x.uses
 dd:∀d,x.dst=some d→y.dst≠some d
 it:∀n,n∈x.ids→n∉y.touch
 ti:∀n,n∈y.ids→n∉x.touch
 ii:∀n,n∈x.ids→n∉y.ids
theorem apart_inv {x y:Ent} (h:apart x y=true):Apart x y:=by
 simp only [apart,x4,xR] at h
 obtain ⟨⟨⟨⟨⟨h1,h2⟩,h3⟩,h4⟩,h5⟩,h6⟩:=h
 refine ⟨fun d hd hm=>?_,fun d hd hm=>?_,fun d hd he=>?_,fun n a b=>disj_inv h4 a b,fun n a b=>disj_inv h5 a b,fun n a b=>disj_inv h6 a b⟩
 ·rw [hd] at h1;simp only [oneOf] at h1;rw [mem_iff.2 hm] at h1;cases h1
 ·rw [hd] at h2;simp only [oneOf] at h2;rw [mem_iff.2 hm] at h2;cases h2
 ·rw [hd,he] at h3;simp at h3
theorem Apart.symm {x y:Ent} (h:Apart x y):Apart y x :=
 ⟨h.ud,h.du,fun d h1 h2=>h.dd d h2 h1,h.ti,h.it,fun n h1 h2=>h.ii n h2 h1⟩
structure Apart0 (x y:Ent):Prop where
 du:∀d,x.dst=some d→d∉y.uses
 ud:∀d,y.dst=some d→d∉x.uses
 dd:∀d,x.dst=some d→y.dst≠some d
 ii:∀n,n∈x.ids→n∉y.ids
theorem Apart.a0 {x y:Ent} (h:Apart x y):Apart0 x y:=⟨h.du,h.ud,h.dd,h.ii⟩
theorem Apart0.symm {x y:Ent} (h:Apart0 x y):Apart0 y x:=⟨h.ud,h.du,fun d h1 h2=>h.dd d h2 h1,fun n h1 h2=>h.ii n h2 h1⟩
theorem late_inv {r:List Ent} {x y:Ent} (h:late r x y=true):Apart0 x y∧(∀n,n∈x.ids→n∉y.touch)∧∃v i d o,y.eff=some ⟨v,[i],[(d,o)]⟩∧d∉x.touch∧loneN i d r≤1∧i≠d:=by
 simp only [late,x4,xR] at h
 obtain ⟨⟨⟨⟨⟨h1,h2⟩,h3⟩,h4⟩,h5⟩,h6⟩:=h
 refine ⟨⟨fun d hd hm=>?_,fun d hd hm=>?_,fun d hd he=>?_,fun n a b=>disj_inv h5 a b⟩,fun n a b=>disj_inv h4 a b,?_⟩
 ·rw [hd] at h1;simp only [oneOf] at h1;rw [mem_iff.2 hm] at h1;cases h1
 ·rw [hd] at h2;simp only [oneOf] at h2;rw [mem_iff.2 hm] at h2;cases h2
 ·simp only [hd,he] at h3;simp at h3
 ·split at h6
  ·rename_i f hf
   obtain ⟨v,dr,nw⟩:=f
   simp only at h6
   split at h6
   ·rename_i i d o
    simp only [x4,xR] at h6
    refine ⟨v,_,_,_,hf,fun hm=>?_,zQ h6.1.2,fun he=>?_⟩
    ·have:=mem_iff.2 hm
     rw [h6.1.1] at this;cases this
    ·rw [he] at h6;simp at h6
   ·cases h6
  ·cases h6
theorem loneN_at {i d:Nat}:∀{r:List Ent} {j:Nat} {x:Ent},r[j]?=some x→(i∈x.ids∨d∈x.ids)→1≤loneN i d r
 | [],_,_,h,_=>by simp at h
 | z::r,0,x,h,hm=>by
  simp at h;subst h
  have:(mem i z.ids||mem d z.ids)=true:=by
   rcases hm with hm|hm
   ·simp [mem_iff.2 hm]
   ·simp [mem_iff.2 hm]
  simp only [loneN,this,vD];omega
 | z::r,j+1,x,h,hm=>by
  have:=loneN_at (r:=r) (j:=j) (by simpa using h) hm
  simp only [loneN];omega
theorem loneN_one {i d:Nat}:∀{r:List Ent} {j k:Nat} {x y:Ent},loneN i d r≤1→r[j]?=some x→r[k]?=some y→(i∈x.ids∨d∈x.ids)→(i∈y.ids∨d∈y.ids)→j=k
 | [],_,_,_,_,_,h,_,_,_=>by simp at h
 | z::r,0,0,_,_,_,_,_,_,_=>rfl
 | z::r,0,k+1,x,y,hl,hx,hy,h1,h2=>by
  exfalso
  simp at hx;subst hx
  have a:=loneN_at (r:=r) (j:=k) (by simpa using hy) h2
  have b:(mem i z.ids||mem d z.ids)=true:=by
   rcases h1 with hm|hm
   ·simp [mem_iff.2 hm]
   ·simp [mem_iff.2 hm]
  simp only [loneN,b,vD] at hl;omega
 | z::r,j+1,0,x,y,hl,hx,hy,h1,h2=>by
  exfalso
  simp at hy;subst hy
  have a:=loneN_at (r:=r) (j:=j) (by simpa using hx) h1
  have b:(mem i z.ids||mem d z.ids)=true:=by
   rcases h2 with hm|hm
   ·simp [mem_iff.2 hm]
   ·simp [mem_iff.2 hm]
  simp only [loneN,b,vD] at hl;omega
 | z::r,j+1,k+1,x,y,hl,hx,hy,h1,h2=>by
  simp only [loneN] at hl
  have:j=k:=loneN_one (r:=r) (j:=j) (k:=k) (x:=x) (y:=y) (by omega) (by simpa using hx) (by simpa using hy) h1 h2
  rw [this]
theorem lateRow_inv {all:List MOp} {m:MOp} {l:Nat}:∀{r:List Nat},lateRow all m r=true→mem (1000000+l) r=true→m.ins.isApp=true∧∃q,all[l]?=some q∧q.ins.isLd=true
 | [],_,h=>by simp [mem] at h
 | x::r,h,hm=>by
  simp only [lateRow,x4] at h
  rcases wO.1 (mem_iff.1 hm) with e|hm
  ·subst e
   have hb:Nat.blt (1000000+l) 1000000=false:=by
    cases hb:Nat.blt (1000000+l) 1000000 with
    | false=>rfl
    | true=>have:=blt_iff.1 hb;omega
   have h1:=h.1
   rw [hb,wR,x4] at h1
   refine ⟨h1.1,?_⟩
   have e:1000000+l - 1000000=l:=by omega
   rw [e] at h1
   cases hq:all[l]? with
   | none=>rw [hq] at h1;cases h1.2
   | some q=>rw [hq] at h1;exact ⟨q,rfl,h1.2⟩
  ·exact lateRow_inv h.2 (mem_iff.2 hm)
theorem lateOK_at {all:List MOp} {l:Nat}:∀{ms:List MOp} {anc:List (List Nat)} {k:Nat} {a:List Nat} {m:MOp},lateOK all ms anc=true→anc[k]?=some a→ms[k]?=some m→mem (1000000+l) a=true→m.ins.isApp=true∧∃q,all[l]?=some q∧q.ins.isLd=true
 | [],_,_,_,_,_,_,h,_=>by simp at h
 | _::_,[],_,_,_,_,h,_,_=>by simp at h
 | m0::r,a0::s,0,a,m,h,ha,hm,hl=>by
  simp only [lateOK,x4] at h
  simp at ha hm;subst ha;subst hm
  exact lateRow_inv h.1 hl
 | m0::r,a0::s,k+1,a,m,h,ha,hm,hl=>by
  simp only [lateOK,x4] at h
  exact lateOK_at h.2 (by simpa using ha) (by simpa using hm) hl
def NoMen (x:Ent) (l:List Nat):Prop:=∀n∈l,∀f,x.eff=some f→f.val.has n=false∧noHeap n f.new=true
theorem noMen_inv {x:Ent}:∀{l:List Nat},noMen x l=true→NoMen x l
 | [],_,n,hn=>by cases hn
 | m::r,h,n,hn=>by
  simp only [noMen,x4] at h
  rcases wO.1 hn with rfl|hn
  ·intro f hf
   rw [hf] at h
   simp only [x4,xR] at h
   exact h.1
  ·exact noMen_inv h.2 n hn
theorem chkOne_at {i:Nat} {x:Ent} {all:List Ent}:∀{anc:List (List Nat)} {r:List Ent} {k:Nat} {a:List Nat} {y:Ent},chkOne i x all anc r=true→anc[k]?=some a→r[k]?=some y→pairOK (Nat.blt i 1000000&&mem i a) (mem (1000000+i) a) all x y=true
 | _,[],k,_,_,_,_,h=>by simp at h
 | [],_::_,k,_,_,_,h,_=>by simp at h
 | a0::anc,y0::r,0,a,y,h,ha,hy=>by
  simp only [chkOne,x4 (chkOne _ _ _ _ _),x4 (pairOK _ _ _ _ _)] at h
  simp at ha hy;subst ha;subst hy;exact h.1
 | a0::anc,y0::r,k+1,a,y,h,ha,hy=>by
  simp only [chkOne,x4 (pairOK _ _ _ _ _)] at h
  exact chkOne_at h.2 (by simpa using ha) (by simpa using hy)
theorem chkAll_at {H0:Heap} {σ:St}:∀{i:Nat} {anc:List (List Nat)} {es:List Ent} {j k:Nat} {a:List Nat} {x y:Ent},chkAll H0 σ i anc es=true→j<k→anc[k]?=some a→es[j]?=some x→es[k]?=some y →
  pairOK (Nat.blt (i+j) 1000000&&mem (i+j) a) (mem (1000000+(i+j)) a) (es.drop (j+1)) x y=true
 | _,_,[],j,_,_,_,_,_,_,_,h,_=>by simp at h
 | _,[],_::_,_,k,_,_,_,_,_,h,_,_=>by simp at h
 | i,a0::anc,x0::r,0,k,a,x,y,h,hlt,ha,hx,hy=>by
  simp only [chkAll,x4] at h
  simp at hx;subst hx
  cases k with
  | zero=>omega
  | succ k=>exact chkOne_at h.1.2 (by simpa using ha) (by simpa using hy)
 | i,a0::anc,x0::r,j+1,k,a,x,y,h,hlt,ha,hx,hy=>by
  simp only [chkAll,x4] at h
  cases k with
  | zero=>omega
  | succ k =>
   have:=chkAll_at (i:=i+1) (j:=j) (k:=k) h.2 (by omega) (by simpa using ha) (by simpa using hx) (by simpa using hy)
   rw [show i+(j+1)=i+1+j from by omega];exact this
theorem chkAll_clean {c:Ctx} {σ:St}:∀{i:Nat} {anc:List (List Nat)} {es:List Ent} {j:Nat} {x:Ent},chkAll c.H0 σ i anc es=true→es[j]?=some x→∀n∈x.made,Clean c σ n
 | _,_,[],j,_,_,h=>by simp at h
 | _,[],_::_,_,_,h,_=>by simp [chkAll] at h
 | i,a0::anc,x0::r,0,x,h,hx=>by
  simp only [chkAll,x4] at h
  simp at hx;subst hx
  exact cleanL_inv h.1.1
 | i,a0::anc,x0::r,j+1,x,h,hx=>by
  simp only [chkAll,x4] at h
  exact chkAll_clean h.2 (by simpa using hx)
theorem noEnv_put {n d:Nat} {x:V}:∀{env:List (Nat×V)},noEnv n env=true→x.has n=false→noEnv n (put d x env)=true
 | [],_,hx=>by simp [put,noEnv,hx]
 | (m,y)::r,h,hx=>by
  simp only [noEnv,x4] at h
  simp only [put]
  cases Nat.beq d m with
  | true=>simp only [vD,noEnv,hx,h.2,wM,wS]
  | false=>simp only [vB,noEnv,h.1,noEnv_put h.2 hx,wS]
theorem noHeap_put {n d:Nat} {x:Obj'}:∀{H:Heap},noHeap n H=true→x.has n=false→noHeap n (put d x H)=true
 | [],_,hx=>by simp [put,noHeap,hx]
 | (m,y)::r,h,hx=>by
  simp only [noHeap,x4] at h
  simp only [put]
  cases Nat.beq d m with
  | true=>simp only [vD,noHeap,hx,h.2,wM,wS]
  | false=>simp only [vB,noHeap,h.1,noHeap_put h.2 hx,wS]
theorem noHeap_del {n d:Nat}:∀{H:Heap},noHeap n H=true→noHeap n (del d H)=true
 | [],_=>rfl
 | (m,y)::r,h=>by
  simp only [noHeap,x4] at h
  simp only [del]
  cases Nat.beq d m with
  | true=>exact noHeap_del h.2
  | false=>simp only [vB,noHeap,h.1,noHeap_del h.2,wS]
theorem noHeap_dels {n:Nat}:∀{l:List Nat} {H:Heap},noHeap n H=true→noHeap n (dels l H)=true
 | [],_,h=>h
 | d::r,_,h=>noHeap_dels (l:=r) (noHeap_del h)
theorem noHeap_puts {n:Nat}:∀{l:List (Nat×Obj')} {H:Heap},noHeap n H=true→noHeap n l=true→noHeap n (puts l H)=true
 | [],_,h,_=>h
 | (d,o)::r,_,h,hl=>by
  simp only [noHeap,x4,xR] at hl
  exact noHeap_puts (l:=r) (noHeap_put h hl.1) hl.2
theorem clean_app {c:Ctx} {σ:St} {e:Ent} {n:Nat} (h:Clean c σ n) (hm:∀f,e.eff=some f→f.val.has n=false∧noHeap n f.new=true):Clean c (e.app σ) n:=by
 unfold Ent.app
 cases he:e.eff with
 | none =>
  refine ⟨h.1,?_,h.2.2⟩
  cases hd:e.dst with
  | none=>exact h.2.1
  | some d=>exact noEnv_put h.2.1 rfl
 | some f =>
  obtain ⟨h1,h2⟩:=hm f he
  refine ⟨h.1,?_,noHeap_puts (noHeap_dels h.2.2) h2⟩
  cases hd:e.dst with
  | none=>exact h.2.1
  | some d=>exact noEnv_put h.2.1 h1
theorem clean_fold {c:Ctx} {n:Nat} {E:Nat→Bool}:∀{es:List Ent} {i:Nat} {σ:St},Clean c σ n→(∀k e,es[k]?=some e→E (i+k)=true→∀f,e.eff=some f→f.val.has n=false∧noHeap n f.new=true)→Clean c (fold E i es σ) n
 | [],_,_,h,_=>h
 | e::r,i,σ,h,hk=>by
  simp only [fold]
  refine clean_fold ?_ fun k e' he' hE=>hk (k+1) e' (by simpa using he') (by rw [show i+(k+1)=i+1+k from by omega];exact hE)
  have h0:=hk 0 e rfl
  rw [wZ] at h0
  cases hE:E i with
  | true=>exact clean_app h (h0 hE)
  | false=>exact h
theorem natsEq_eq:∀{a b:List Nat},natsEq a b=true→a=b
 | [],[],_=>rfl
 | x::a,y::b,h=>by
  simp only [natsEq,x4] at h
  rw [zR h.1,natsEq_eq h.2]
 | [],_::_,h=>by simp [natsEq] at h
 | _::_,[],h=>by simp [natsEq] at h
theorem aftOK_at:∀{aft:List (List Nat)} {os:List Oper} {k:Nat} {o:Oper},aftOK aft os=true→os[k]?=some o→∃a,aft[k]?=some a∧a=(o.after.toList.filter (Region.binds .any)).map (·.on)
 | [],[],k,o,_,h=>by simp at h
 | a::r,o'::s,0,o,h,ho=>by
  simp only [aftOK,x4] at h
  simp at ho;subst ho
  exact ⟨a,rfl,natsEq_eq h.1⟩
 | a::r,o'::s,k+1,o,h,ho=>by
  simp only [aftOK,x4] at h
  obtain ⟨b,h1,h2⟩:=aftOK_at h.2 (k:=k) (by simpa using ho)
  exact ⟨b,by simpa using h1,h2⟩
 | [],_::_,_,_,h,_=>by simp [aftOK] at h
 | _::_,[],_,_,h,_=>by simp [aftOK] at h
theorem below_inv {j:Nat}:∀{l:List Nat},below j l=true→∀n∈l,n<j
 | [],_,n,h=>by cases h
 | m::r,h,n,hn=>by
  simp only [below,x4] at h
  rcases wO.1 hn with rfl|hn
  ·exact blt_iff.1 h.1
  ·exact below_inv h.2 n hn
theorem ancRow_inv {aft:List Nat} {anc:List (List Nat)}:∀{l:List Nat},ancRow aft anc l=true→∀n∈l,n<1000000→n∈aft∨∃m∈aft,n∈anc.getD m []
 | [],_,n,h,_=>by cases h
 | m::r,h,n,hn,hlt=>by
  simp only [ancRow,x4,wI,List.any_eq_true] at h
  rcases wO.1 hn with rfl|hn
  ·rcases h.1 with (h1|h1)|⟨m,h1,h2⟩
   ·exact absurd (zQ h1) (by omega)
   ·exact .inl (mem_iff.1 h1)
   ·exact .inr ⟨m,h1,mem_iff.1 h2⟩
  ·exact ancRow_inv h.2 n hn hlt
theorem ancOK_at {all:List (List Nat)}:∀{j:Nat} {aft anc:List (List Nat)} {k:Nat} {a:List Nat},ancOK all j aft anc=true→aft[k]?=some a→∃b,anc[k]?=some b∧below (j+k) a=true∧ancRow a all b=true
 | j,[],[],k,a,_,h=>by simp at h
 | j,a0::aft,b0::anc,0,a,h,ha=>by
  simp only [ancOK,x4] at h
  simp at ha;subst ha
  exact ⟨b0,rfl,h.1.1,h.1.2⟩
 | j,a0::aft,b0::anc,k+1,a,h,ha=>by
  simp only [ancOK,x4] at h
  obtain ⟨b,h1,h2,h3⟩:=ancOK_at h.2 (k:=k) (by simpa using ha)
  exact ⟨b,by simpa using h1,by rw [show j+(k+1)=j+1+k from by omega];exact h2,h3⟩
 | _,[],_::_,_,_,h,_=>by simp [ancOK] at h
 | _,_::_,[],_,_,h,_=>by simp [ancOK] at h
end Go.Ab
namespace Go.Ab
open Go.RowKit
theorem anc_closed {all:List (List Nat)} {aft:List (List Nat)} {E:Nat→Bool} (hok:ancOK all 0 aft all=true) (hE:∀k a,aft[k]?=some a→E k=true→∀x∈a,E x=true) :
  ∀(k:Nat) (a b:List Nat),aft[k]?=some a→all[k]?=some b→(∀x∈a,E x=true)→∀x∈b,x<1000000→E x=true:=by
 intro k
 induction k using Nat.strongRecOn with
 | _ k ih =>
  intro a b ha hb hall x hx hxl
  obtain ⟨b',h1,h2,h3⟩:=ancOK_at hok ha
  rw [hb] at h1;cases h1
  rw [wV] at h2
  rcases ancRow_inv h3 x hx hxl with h|⟨m,h4,h5⟩
  ·exact hall x h
  ·have hm:=below_inv h2 m h4
   cases hbm:all[m]? with
   | none=>rw [zE,hbm] at h5;simp at h5
   | some bm =>
    rw [zE,hbm] at h5
    have hmk:m<aft.length:=Nat.lt_trans hm (zG.1 ha).1
    exact ih m hm aft[m] bm (zJ hmk) hbm (hE m _ (zJ hmk) (hall m h4)) x h5 hxl
def setE1 (E:Nat→Bool) (i:Nat):Nat→Bool:=fun k=>bif Nat.beq k i then true else E k
theorem setE1_same {E:Nat→Bool} {i:Nat}:setE1 E i i=true:=by simp [setE1]
theorem setE1_ne {E:Nat→Bool} {i k:Nat} (h:k≠i):setE1 E i k=E k:=by
 have:Nat.beq k i=false:=by
  cases hb:Nat.beq k i with
  | true=>exact absurd (zR hb) h
  | false=>rfl
 simp [setE1,this]
theorem Rel.congr {P:Program} {c:Ctx} {g:Gh} {σ τ:St} {a:Act} {w:World} (h:Rel P c g σ a w) (he:∀s,find s τ.env=find s σ.env) (hh:∀s,find s τ.heap=find s σ.heap):Rel P c g τ a w :=
 h.sub (fun s x hx=>by rw [←he];exact hx) fun s o ho=>by rw [←hh];exact ho
theorem mem_slots {n:Nat}:∀{l:List Opd},Opd.t n∈l→n∈slotsOf l
 | .t m::r,h=>by
  rcases wO.1 h with h|h
  ·cases h;exact xE
  ·exact z7 _ (mem_slots h)
 | .c _::r,h=>by
  rcases wO.1 h with h|h
  ·cases h
  ·exact mem_slots (l:=r) h
 | .f _::r,h=>by
  rcases wO.1 h with h|h
  ·cases h
  ·exact mem_slots (l:=r) h
theorem ev_congr {env env':List (Nat×V)}:∀{l:List Opd},(∀n∈slotsOf l,find n env=find n env')→l.map (·.ev env)=l.map (·.ev env'):=by
 intro l h
 refine List.map_congr_left fun x hx=>?_
 cases x with
 | t n=>simp only [Opd.ev,get_find,h n (mem_slots hx)]
 | c v=>rfl
 | f n=>rfl
theorem mopsOK_at {P:Program} {nt:Nat} {ops:Array Oper}:∀{ms:List MOp} {os:List Oper} {k:Nat} {o:Oper},mopsOK P nt ops ms os=true→os[k]?=some o→∃m,ms[k]?=some m∧m.ok P nt ops o=true
 | [],[],k,o,_,h=>by simp at h
 | m::r,o'::s,0,o,h,ho=>by
  simp only [mopsOK,x4] at h
  simp at ho;subst ho
  exact ⟨m,rfl,h.1⟩
 | m::r,o'::s,k+1,o,h,ho=>by
  simp only [mopsOK,x4] at h
  obtain ⟨b,h1,h2⟩:=mopsOK_at h.2 (k:=k) (by simpa using ho)
  exact ⟨b,by simpa using h1,h2⟩
 | [],_::_,_,_,h,_=>by cases h
 | _::_,[],_,_,h,_=>by cases h
theorem mopsOK_len {P:Program} {nt:Nat} {ops:Array Oper}:∀{ms:List MOp} {l:List Oper},mopsOK P nt ops ms l=true→ms.length=l.length
 | [],[],_=>rfl
 | m::r,o::s,h=>by
  simp only [mopsOK,x4] at h
  simp only [xX,mopsOK_len h.2]
 | [],_::_,h=>by cases h
 | _::_,[],h=>by cases h
section
variable {P:Program} {c:Ctx} {ops:Array Oper} {ms:List MOp} {es:List Ent} {aft anc:List (List Nat)} {σ0:St} {Q:Exit→Act→World→Prop}
structure Part (aft:List (List Nat)) (E:Nat→Bool) (i:Nat):Prop where
 down:∀k a,aft[k]?=some a→E k=true→∀x∈a,E x=true
 out:E i=false
 ready:∀a,aft[i]?=some a→∀x∈a,E x=true
structure LateAt (anc:List (List Nat)) (es:List Ent) (l k:Nat) (x y:Ent):Prop where
 lt:l<k
 fst:es[l]?=some x
 snd:es[k]?=some y
 mark:∃a,anc[k]?=some a∧mem (1000000+l) a=true
 ok:late (es.drop (l+1)) x y=true
theorem part_apart {E:Nat→Bool} {i:Nat} {e:Ent} (hanc:ancOK anc 0 aft anc=true) (hchk:chkAll c.H0 σ0 0 anc es=true) (hl:aft.length=es.length) (hp:Part aft E i) (hi:es[i]?=some e)
  {k:Nat} {e':Ent} (hk:es[k]?=some e') (hne:k≠i) (hE:E k≠decide (k<i)):Apart0 e e'∧NoMen e' e.made∧((∀n,n∈e'.ids→n∉e.touch)∨LateAt anc es i k e e'):=by
 have hil:i<aft.length:=by rw [hl];exact (zG.1 hi).1
 have hkl:k<aft.length:=by rw [hl];exact (zG.1 hk).1
 have hai:=zJ hil
 have hak:=zJ hkl
 obtain ⟨bi,hbi,_,_⟩:=ancOK_at hanc hai
 obtain ⟨bk,hbk,_,_⟩:=ancOK_at hanc hak
 by_cases hlt:k<i
 ·have hEk:E k=false:=by
   cases h:E k with
   | false=>rfl
   | true=>rw [h] at hE;simp [hlt] at hE
  have hno:(Nat.blt (0+k) 1000000&&mem (0+k) bi)=false:=by
   cases h:(Nat.blt (0+k) 1000000&&mem (0+k) bi) with
   | false=>rfl
   | true =>
    rw [x4] at h
    have:=anc_closed hanc hp.down i _ bi hai hbi (hp.ready _ hai) k (by simpa using mem_iff.1 h.2) (by have:=blt_iff.1 h.1;omega)
    rw [hEk] at this;cases this
  have:=chkAll_at hchk hlt hbi hk hi
  rw [hno] at this
  simp only [pairOK,wR,x4,wI] at this
  refine ⟨?_,noMen_inv this.1,.inl ?_⟩
  ·rcases this.2.1 with h|h
   ·exact (apart_inv h).a0.symm
   ·exact (late_inv h.2).1.symm
  ·rcases this.2.1 with h|h
   ·exact (apart_inv h).it
   ·exact (late_inv h.2).2.1
 ·have hEk:E k=true:=by
   cases h:E k with
   | true=>rfl
   | false=>rw [h] at hE;simp [hlt] at hE
  have hik:i<k:=by omega
  have hno:(Nat.blt (0+i) 1000000&&mem (0+i) bk)=false:=by
   cases h:(Nat.blt (0+i) 1000000&&mem (0+i) bk) with
   | false=>rfl
   | true =>
    rw [x4] at h
    have:=anc_closed hanc hp.down k _ bk hak hbk (hp.down k _ hak hEk) i (by simpa using mem_iff.1 h.2) (by have:=blt_iff.1 h.1;omega)
    rw [hp.out] at this;cases this
  have:=chkAll_at hchk hik hbk hi hk
  rw [hno] at this
  simp only [pairOK,wR,x4,wI] at this
  refine ⟨?_,noMen_inv this.2.2,?_⟩
  ·rcases this.2.1 with h|h
   ·exact (apart_inv h).a0
   ·exact (late_inv h.2).1
  ·rcases this.2.1 with h|h
   ·exact .inl (apart_inv h).ti
   ·exact .inr ⟨hik,hi,hk,⟨bk,hbk,by rw [←h.1,wV]⟩,h.2⟩
theorem part_nomen {E:Nat→Bool} {i:Nat} {e:Ent} (hanc:ancOK anc 0 aft anc=true) (hchk:chkAll c.H0 σ0 0 anc es=true) (hl:aft.length=es.length) (hp:Part aft E i) (hi:es[i]?=some e)
  {k:Nat} {e':Ent} (hk:es[k]?=some e') (hE:E k=true):NoMen e' e.made:=by
 have hne:k≠i:=fun h=>by rw [h,hp.out] at hE;cases hE
 by_cases hlt:k<i
 ·have hil:i<aft.length:=by rw [hl];exact (zG.1 hi).1
  obtain ⟨bi,hbi,_,_⟩:=ancOK_at hanc (zJ hil)
  have:=chkAll_at hchk hlt hbi hk hi
  simp only [pairOK,x4] at this
  exact noMen_inv this.1
 ·exact (part_apart hanc hchk hl hp hi hk hne (by rw [hE];simp [hlt])).2.1
def PinW (H:Heap) (g:Gh) (w:World) (id k:Nat) (xs:List V) (d:Nat):Prop :=
 xs=[]∨∃(cur:Array Value) (e:TypeId) (fz:Nat×Nat),w.heap[g.ρ id]?=some (.cells cur e fz)∧(∀i x,xs[i]?=some x→(g.base id+i)*k+x.cells.length≤cur.size) ∧
  (∀(i j:Nat) (x y:V),xs[i]?=some x→x.cells[j]?=some y→Rd g.S w (cur.getD ((g.base id+i)*k+j) undef) y)∧(g.S (g.ρ id)∨((∃o,find d H=some o)∧¬g.nil d∧g.ρ d=g.ρ id))
theorem PinW.congr {H H':Heap} {g:Gh} {w:World} {id k d:Nat} {xs:List V} (h:PinW H g w id k xs d) (he:find d H'=find d H):PinW H' g w id k xs d:=by
 rcases h with h|⟨cur,e,fz,h1,h2,h3,h4⟩
 ·exact .inl h
 ·exact .inr ⟨cur,e,fz,h1,h2,h3,h4.imp (fun h=>h) fun h=>⟨by rw [he];exact h.1,h.2⟩⟩
theorem PinW.step {H:Heap} {g g':Gh} {w w':World} {id k d:Nat} {xs:List V} {f:Eff} (h:PinW H g w id k xs d) (hH:HRel P g w H) (hs:StepOK g H w f g' w') (hi:id∉f.ids) (hd:d∉f.ids):PinW (f.heap H) g' w' id k xs d:=by
 have hkeep:Keep g.S w w':=fun b hb=>hs.keep b (hH.lt b hb) fun id o _ ho hn he=>hH.sep id o ho hn (he▸hb)
 have nn:∀{n},n∉f.ids→∀o,(n,o)∉f.new:=fun hn o ho=>hn (by simp only [Eff.ids,wD,w4];exact .inr ⟨_,ho,rfl⟩)
 rcases h with h|⟨cur,e,fz,h1,h2,h3,h4⟩
 ·exact .inl h
 ·obtain ⟨a1,a2,a3,a4⟩:=hs.agree id (nn hi)
  obtain ⟨b1,b2,b3,b4⟩:=hs.agree d (nn hd)
  refine .inr ⟨cur,e,fz,?_,fun i x hx=>by rw [a2];exact h2 i x hx,fun i j x y hx hy=>by rw [a2];exact (h3 i j x y hx hy).mono hkeep hs.sup,?_⟩
  ·rw [a1]
   rcases h4 with h4|⟨⟨o,h5⟩,h6,h7⟩
   ·exact (hkeep _ h4).trans h1
   ·refine (hs.keep _ (zF.1 h1).1 fun id0 o0 hid0 ho0 hn0 he=>?_).trans h1
    exact hd (hH.inj id0 d o0 o ho0 h5 hn0 h6 (by rw [he,h7])▸hid0)
  ·rw [a1,b1]
   rcases h4 with h4|⟨h5,h6,h7⟩
   ·exact .inl (hs.sup _ h4)
   ·exact .inr ⟨by rw [Eff.find_other hd];exact h5,fun h=>h6 (b4.1 h),h7⟩
theorem PinA.w {g g':Gh} {w':World} {H:Heap} {id k d:Nat} {xs:List V} (h:PinA g g' w' id k xs d) (ha:g.agree g' id) (hd:∃o,find d H=some o):PinW H g' w' id k xs d:=by
 obtain ⟨a1,a2,a3,a4⟩:=ha
 rcases h with h|⟨cur,e,fz,h1,h2,h3,h4⟩
 ·exact .inl h
 ·refine .inr ⟨cur,e,fz,by rw [a1];exact h1,by rw [a2];exact h2,by rw [a2];exact h3,?_⟩
  rw [a1]
  exact h4.imp (fun h=>h) fun h=>⟨hd,h⟩
theorem s_ldP {o:Oper} {g:Gh} {σ:St} {a:Act} {w:World} {K L:Eff→Prop} {K':Act→World→Prop} {Q':Exit→Act→World→Prop} {n:Option Nat} {x:Opd} (hok:(MIns.ld n x).ok P o.op=true) (hR:Rel P c g σ a w) {H:Heap} {id k i off d:Nat} {xs:List V} {q:V} (hx:x.ev σ.env=.optr id k i off)
  (hp:PinW H g w id k xs d) (hq:xs[i]?=some q) (h:part n off q.cells (fun r=>K (evl r))) (hF:Fin o c g σ a w K L K'):o.wp P a w K' Q':=by
 have:∃t y,o.op=.load t y∧x.ok y=true∧aggN P t=some n:=by
  cases ho:o.op<;>rw [ho] at hok<;>try (simp [MIns.ok] at hok;done)
  simp [MIns.ok] at hok
  exact ⟨_,_,rfl,hok.1,hok.2⟩
 obtain ⟨t,y,ho,hx',ht⟩:=this
 have vx:=Opd.vr hR hx'
 rw [hx] at vx
 rcases hp with hp|⟨cur,e,fz,h1,h2,h3,h4⟩
 ·rw [hp] at hq;simp at hq
 ·obtain ⟨v,x'',hrun,hk,hv'⟩:=run_loadVar_part (P:=P) (g:=g) (w:=w) ht (o':=(g.base id+i)*k) (off:=off) h1 (cs:=q.cells) (h2 i q hq) (fun j y hj=>.rd (h3 i j q y hq hj)) h
  exact fin_val hR hF (by simp [execOp,ho,Instr.loadAt,vx.optr_inv,Instr.sureAddr,hrun]) (.inl hk) hv'
def PinInv (anc:List (List Nat)) (es:List Ent) (σ0:St) (E:Nat→Bool) (g:Gh) (w:World):Prop :=
 ∀l k x y,LateAt anc es l k x y→E l=false→E k=true→∀v id d o,y.eff=some ⟨v,[id],[(d,o)]⟩→∀kk xs t,find id (fold (fun j=>decide (j<k)) 0 es σ0).heap=some (.arr kk xs t)→PinW (fold E 0 es σ0).heap g w id kk xs d
theorem app_at {k bytes d:Nat} {ty:Option TypeId} {x y:V} {ob:Nat→Option Obj'} {v:V} {id d':Nat} {o:Obj'} (h:sApp k bytes d ty x y ob (fun u=>u=⟨v,[id],[(d',o)]⟩)) :
  d'=d∧∃lo n xs t0,x=.osl id k lo n∧ob id=some (.arr k xs t0):=by
 unfold sApp at h
 split at h
 ·obtain ⟨_,h⟩:=h
  split at h
  ·obtain ⟨_,h⟩:=h;simp at h
  ·split at h
   ·rename_i id' k' lo n _ k'' xs t0 hob
    by_cases hb:(Nat.beq k k'&&Nat.beq k k'')=true
    case neg=>simp [hb] at h
    simp only [hb,vD] at h
    simp only [x4] at hb
    have q1:=zR hb.1;subst q1
    have q2:=zR hb.2;subst q2
    obtain ⟨_,h⟩:=h
    simp only [Eff.mk.injEq,wG,Prod.mk.injEq,and_true] at h
    obtain ⟨_,h1,h2,_⟩:=h
    subst h1;subst h2
    exact ⟨rfl,_,_,_,_,rfl,hob⟩
   ·exact h.elim
  ·exact h.elim
 ·exact h.elim
theorem step_any {E:Nat→Bool} {i:Nat} {o:Oper} {m:MOp} {e:Ent} {g:Gh} {a:Act} {w:World} {K':Act→World→Prop} (hlate:lateOK ms ms anc=true) (hevs:Evs P c.H0 ms es σ0) (hms:ms[i]?=some m) (hanc:ancOK anc 0 aft anc=true) (hchk:chkAll c.H0 σ0 0 anc es=true) (hl:aft.length=es.length)
  (hp:Part aft E i) (ho:ops[i]?=some o) (hm:m.ok P c.nt ops o=true) (hi:es[i]?=some e) (hev:Ev P c.H0 m e (fold (fun j=>decide (j<i)) 0 es σ0)) (hR:Rel P c g (fold E 0 es σ0) a w) (hP:PinInv anc es σ0 E g w)
  (hK:∀g' a' w',Rel P c g' (fold (setE1 E i) 0 es σ0) a' w'→PinInv anc es σ0 (setE1 E i) g' w'→K' a' w'):wpOp P ops Q i K' a w:=by
 have hm':=hm
 simp only [MOp.ok,x4] at hm'
 obtain ⟨⟨hins,h2⟩,h3⟩:=hm'
 obtain ⟨hdd,hlt⟩:=dstOK_inv h2
 obtain ⟨hdst,hev⟩:=hev
 have apt:∀{k:Nat} {e':Ent},es[k]?=some e'→k≠i→E k≠decide (k<i)→Apart0 e e':=fun hk hne hE=>(part_apart hanc hchk hl hp hi hk hne hE).1
 have henv:∀s∈e.uses,find s (fold E 0 es σ0).env=find s (fold (fun j=>decide (j<i)) 0 es σ0).env:=fun s hs=>fold_env rfl fun k e' hk hne hd=>by
  rw [wV] at hne
  by_cases hki:k=i
  ·subst hki;rw [hp.out] at hne;simp at hne
  ·exact (apt hk hki hne).ud s hd hs
 have hheap:∀n∈e.touch,find n (fold E 0 es σ0).heap=find n (fold (fun j=>decide (j<i)) 0 es σ0).heap∨∃k e',n∈e'.ids∧E k=true∧LateAt anc es i k e e':=fun n hn=>by
  by_cases hx:∃k e',n∈e'.ids∧E k=true∧LateAt anc es i k e e'
  ·exact .inr hx
  ·refine .inl (fold_heap rfl fun k e' hk hne hd=>?_)
   rw [wV] at hne
   by_cases hki:k=i
   ·subst hki;rw [hp.out] at hne;simp at hne
   ·rcases (part_apart hanc hchk hl hp hi hk hki hne).2.2 with h|h
    ·exact h n hd hn
    ·refine hx ⟨k,e',hd,?_,h⟩
     have:=h.lt
     cases hE:E k with
     | true=>rfl
     | false=>rw [hE] at hne;simp at hne;omega
 have later:∀k e',es[k]?=some e'→i<k→setE1 E i (0+k)=true→Apart0 e e':=fun k e' hk hik hE=>by
  rw [wV,setE1_ne (by omega)] at hE
  exact apt hk (by omega) (by rw [hE];simp;omega)
 have hsameE:∀s,find s (fold (setE1 E i) 0 es σ0).env=find s (e.app (fold E 0 es σ0)).env:=fun s=>by
  by_cases hd:e.dst=some s
  ·rw [fold_env_last (τ:=fold E 0 es σ0) hi (by rw [wV];exact setE1_same) hd fun k e' hk hik hE=>(later k e' hk hik hE).dd s hd]
  ·rw [app_env,if_neg hd]
   refine fold_env rfl fun k e' hk hne hd'=>?_
   rw [wV] at hne
   by_cases hki:k=i
   ·subst hki;rw [hi] at hk;cases hk;exact hd hd'
   ·rw [setE1_ne hki] at hne;exact hne rfl
 have hsameH:∀n,find n (fold (setE1 E i) 0 es σ0).heap=find n (e.app (fold E 0 es σ0)).heap:=fun n=>by
  by_cases hd:n∈e.ids
  ·rw [fold_heap_last (τ:=fold E 0 es σ0) hi (by rw [wV];exact setE1_same) hd fun k e' hk hik hE=>(later k e' hk hik hE).ii n hd]
  ·rw [app_heap_out hd]
   refine fold_heap rfl fun k e' hk hne hd'=>?_
   rw [wV] at hne
   by_cases hki:k=i
   ·subst hki;rw [hi] at hk;cases hk;exact hd hd'
   ·rw [setE1_ne hki] at hne;exact hne rfl
 have one:∀{g':Gh} {a':Act} {w':World},Rel P c g' (e.app (fold E 0 es σ0)) a' w'→Rel P c g' (fold (setE1 E i) 0 es σ0) a' w':=fun hr=>hr.congr hsameE hsameH
 have away:∀{l k:Nat} {x y:Ent},LateAt anc es l k x y→k≠i→E l=false→l≠i→E k=true→∀v id d o,y.eff=some ⟨v,[id],[(d,o)]⟩→id∉e.ids∧d∉e.ids:=fun {l k x y} hla hki hEl hli hEk v id d o hy=>by
  have hyid:id∈y.ids∧d∈y.ids:=by simp [Ent.ids,hy,Eff.ids]
  by_cases hlt:i<k
  ·have h0:=apt hla.snd (by omega) (by rw [hEk];simp;omega)
   exact ⟨fun h=>h0.ii _ h hyid.1,fun h=>h0.ii _ h hyid.2⟩
  ·obtain ⟨_,_,v',id',d',o',hy',_,hlone,_⟩:=late_inv hla.ok
   rw [hy] at hy';cases hy'
   have hlk:=hla.lt
   have hik:k<i:=by omega
   have e1:(es.drop (l+1))[k - (l+1)]?=some y:=by rw [xH,show l+1+(k - (l+1))=k from by omega];exact hla.snd
   have e2:(es.drop (l+1))[i - (l+1)]?=some e:=by rw [xH,show l+1+(i - (l+1))=i from by omega];exact hi
   have no:¬(id∈e.ids∨d∈e.ids):=fun h=>by
    have:=loneN_one hlone e1 e2 (.inl hyid.1) h
    omega
   exact ⟨fun h=>no (.inl h),fun h=>no (.inr h)⟩
 have keepP:∀{f:Eff} {g':Gh} {w':World},e.eff=some f→StepOK g (fold E 0 es σ0).heap w f g' w'→∀l k x y,LateAt anc es l k x y→k≠i→setE1 E i l=false→setE1 E i k=true→∀v id d o,y.eff=some ⟨v,[id],[(d,o)]⟩→∀kk xs t,find id (fold (fun j=>decide (j<k)) 0 es σ0).heap=some (.arr kk xs t) →
   PinW (fold (setE1 E i) 0 es σ0).heap g' w' id kk xs d:=fun {f g' w'} hf hs l k x y hla hki hEl hEk v id d o hy kk xs t hfd=>by
  have hli:l≠i:=fun h=>by subst h;rw [setE1_same] at hEl;cases hEl
  rw [setE1_ne hli] at hEl
  rw [setE1_ne hki] at hEk
  have ids:e.ids=f.ids:=by simp [Ent.ids,hf]
  obtain ⟨h1,h2⟩:=away hla hki hEl hli hEk v id d o hy
  rw [ids] at h1 h2
  refine ((hP l k x y hla hEl hEk v id d o hy kk xs t hfd).step hR.hp hs h1 h2).congr ?_
  rw [hsameH]
  unfold Ent.app
  rw [hf]
  rfl
 have idle:e.eff=none→PinInv anc es σ0 (setE1 E i) g w:=fun hn l k x y hla hEl hEk v id d o hy kk xs t hfd=>by
  have hli:l≠i:=fun h=>by subst h;rw [setE1_same] at hEl;cases hEl
  have hki:k≠i:=fun h=>by
   subst h
   have:=hla.snd
   rw [hi] at this;cases this
   rw [hn] at hy;cases hy
  rw [setE1_ne hli] at hEl
  rw [setE1_ne hki] at hEk
  refine (hP l k x y hla hEl hEk v id d o hy kk xs t hfd).congr ?_
  rw [hsameH,app_heap_out (by simp [Ent.ids,hn])]
 have ran:∀gs,Ran P c.H0 m e (fold (fun j=>decide (j<i)) 0 es σ0) gs→o.wp P a w K' Q:=by
  rintro gs ⟨f,k1,k2,k3,k4,k5⟩
  have hvals:m.ins.opds.map (·.ev (fold E 0 es σ0).env)=m.ins.opds.map (·.ev (fold (fun j=>decide (j<i)) 0 es σ0).env):=ev_congr fun n hn=>henv n (by rw [k3];exact zT _ hn)
  have fin0:∀{g':Gh} {v:Value} {w':World},StepOK g (fold E 0 es σ0).heap w f g' w'→Fresh c.H0 g g' (fold E 0 es σ0) f→VR g' w' v f.val→PinInv anc es σ0 (setE1 E i) g' w'→K' (a.put o.dst v) w':=fun {g' v w'} hs hf hv hpin=>by
   refine hK g' _ w' (one ?_) hpin
   have:e.app (fold E 0 es σ0)=(fold E 0 es σ0).app m.dst f:=by unfold Ent.app;rw [k1,hdst]
   rw [this,←hdd]
   exact hR.step hlt hs hf hv
  by_cases hsp:∃n k e',n∈e.touch∧n∈e'.ids∧E k=true∧LateAt anc es i k e e'
  · -- a load behind the append that consumes its row
   obtain ⟨n,k,y,hn,hny,hEk,hla⟩:=hsp
   obtain ⟨q,hq1,hq2⟩:=hla.mark
   have hkl:k<ms.length:=by rw [←evs_len hevs];exact (zG.1 hla.snd).1
   obtain ⟨happ,ml,hml,hld⟩:=lateOK_at (all:=ms) (l:=i) hlate hq1 (zJ hkl) hq2
   rw [hms] at hml;cases hml
   obtain ⟨_,_,v,id,d,ob',hy,hdt,hlone,_⟩:=late_inv hla.ok
   have hyids:y.ids=[id,d]:=by simp [Ent.ids,hy,Eff.ids]
   have hnid:n=id:=by
    rw [hyids] at hny
    rcases wO.1 hny with h|h
    ·exact h
    ·exact absurd (by rw [xD.1 h] at hn;exact hn) hdt
   subst hnid
   have hevk:=evs_at (i:=0) (k:=k) hevs (zJ hkl) hla.snd
   rw [wV] at hevk
   obtain ⟨_,hevk⟩:=hevk
   have hrk:∃gs,Ran P c.H0 ms[k] y (fold (fun j=>decide (j<k)) 0 es σ0) gs:=by
    rcases hevk with ⟨_,hr⟩|⟨s,want,b,_,_,_,⟨_,hr⟩|⟨_,hr⟩⟩|⟨s,want,_,_,_,hr⟩
    ·exact ⟨_,hr⟩
    ·exact ⟨_,hr⟩
    ·rw [hy] at hr;cases hr
    ·rw [hy] at hr;cases hr
   obtain ⟨gs',f',r1,r2,r3,r4,r5⟩:=hrk
   rw [hy] at r1;cases r1
   cases hik:ms[k].ins<;>rw [hik] at happ<;>try (cases happ;done)
   rename_i ka by' xa ya tya
   rw [hik] at r2
   obtain ⟨_,lo,nn,xs,t0,hxa,hob⟩:=app_at r2
   have hob':find n (fold (fun j=>decide (j<k)) 0 es σ0).heap=some (.arr ka xs t0):=hob
   cases hil:m.ins<;>rw [hil] at hld<;>try (cases hld;done)
   rename_i nl al
   rw [hil] at k2 k4 hins hvals
   have hf0:f.ids=[]:=by
    obtain ⟨r,hr1,hr2⟩:=sLd_at (K:=fun r=>evl r=f) (L:=fun r=>evl r=f) k2
    have:evl r=f:=hr1.elim id id
    rw [←this];rfl
   have heids:e.ids=[]:=by simp [Ent.ids,k1,hf0]
   have hsame:find n (fold (fun j=>decide (j<i)) 0 es σ0).heap=find n (fold (fun j=>decide (j<k)) 0 es σ0).heap:=fold_heap rfl fun q e' hqe hne hd=>by
    rw [wV] at hne
    have hik':=hla.lt
    have hq1:i≤q∧q<k:=by
     by_cases h1:q<i<;>by_cases h2:q<k<;>simp [h1,h2] at hne<;>omega
    by_cases hqi:q=i
    ·subst hqi;rw [hi] at hqe;cases hqe;rw [heids] at hd;cases hd
    ·have e1:(es.drop (i+1))[k - (i+1)]?=some y:=by rw [xH,show i+1+(k - (i+1))=k from by omega];exact hla.snd
     have e2:(es.drop (i+1))[q - (i+1)]?=some e':=by rw [xH,show i+1+(q - (i+1))=q from by omega];exact hqe
     have:=loneN_one hlone e1 e2 (.inl (by rw [hyids];exact xE)) (.inl hd)
     omega
   have hobi:obOf (fold (fun j=>decide (j<i)) 0 es σ0).heap n=some (.arr ka xs t0):=hsame.trans hob'
   have hvals':al.ev (fold E 0 es σ0).env=al.ev (fold (fun j=>decide (j<i)) 0 es σ0).env:=by simpa [MIns.opds] using hvals
   rw [k4] at hn
   simp only [MIns.opds,wP,w5,MIns.touch] at hn k2
   have k2:sLd nl (al.ev (fold (fun j=>decide (j<i)) 0 es σ0).env) (obOf (fold (fun j=>decide (j<i)) 0 es σ0).heap) (fun r=>evl r=f) (fun r=>evl r=f):=k2
   cases hal:al.ev (fold (fun j=>decide (j<i)) 0 es σ0).env<;>rw [hal] at hn k2<;>try (exact (List.not_mem_nil hn).elim)
   case ptr id0 off =>
    simp only [vid,xD] at hn;subst hn
    simp only [sLd,hobi] at k2
   case osl id0 _ _ _=>exact k2.elim
   case omap id0=>exact k2.elim
   case bptr id0=>exact k2.elim
   case optr id0 k0 i0 off =>
    simp only [vid,xD] at hn;subst hn
    simp only [sLd,hobi] at k2
    by_cases hkk:Nat.beq k0 ka=true
    case neg=>simp [hkk] at k2
    simp only [hkk,vD] at k2
    have:=zR hkk;subst this
    obtain ⟨q,hq,hpt⟩:=k2
    have pin:=hP i k e y hla hp.out hEk v n d ob' hy k0 xs t0 hob'
    refine s_ldP hins hR (by rw [hvals'];exact hal) pin hq (K:=fun u=>u=f) (L:=fun u=>u=f) hpt fun eff he g' v' w' hs hf hv=>?_
    have he':eff=f:=he.elim id id
    subst he'
    refine fin0 hs hf hv fun l k' x' y' hla' hEl hEk'=>?_
    by_cases hki:k'=i
    ·exfalso
     subst hki
     have:=hla'.snd
     rw [hi] at this;cases this
     obtain ⟨_,_,_,_,_,_,hy2,_,_⟩:=late_inv hla'.ok
     have:e.ids≠[]:=by simp [Ent.ids,hy2,Eff.ids]
     exact this heids
    ·exact keepP k1 hs l k' x' y' hla' hki hEl hEk'
  ·have hheap:∀n∈e.touch,find n (fold E 0 es σ0).heap=find n (fold (fun j=>decide (j<i)) 0 es σ0).heap:=fun n hn=>(hheap n hn).elim id fun ⟨k,e',h1,h2,h3⟩=>absurd ⟨n,k,e',hn,h1,h2,h3⟩ hsp
   rw [←hvals] at k2
   have k2':=stepV_ob (ob':=obOf (fold E 0 es σ0).heap) (fun id hid=>(by
    have:=hheap id (by rw [k4,←hvals];exact hid)
    unfold obOf;exact this.symm)) k2
   have hcl:∀n∈m.ins.creates m.d,Clean c (fold E 0 es σ0) n:=fun n hn=>by
    rw [←k5] at hn
    exact clean_fold (chkAll_clean hchk hi n hn) fun k e' hk hE f' hf'=>by
     rw [wV] at hE
     exact part_nomen hanc hchk hl hp hi hk hE n hn f' hf'
   by_cases happ:m.ins.isApp=true
   · -- an append: its row can still be read
    cases hia:m.ins<;>rw [hia] at happ<;>try (cases happ;done)
    rename_i ka by' xa ya tya
    rw [hia] at hins k2' hcl k4 hvals
    refine s_appP (K:=fun u=>u=f) (L:=fun u=>u=f) (d:=m.d) hins hR (fun id o h=>h) (hcl m.d (by simp [MIns.creates])) k2' fun eff he g' v w' hs hf hv hpa=>?_
    have he':eff=f:=he
    subst he'
    refine fin0 hs hf hv fun l k x y hla hEl hEk v0 id d o0 hy kk xs t hfd=>?_
    by_cases hki:k=i
    ·subst hki
     have:=hla.snd
     rw [hi] at this;cases this
     rw [hy] at k1;cases k1
     have k2'':sApp ka by' m.d tya (xa.ev (fold E 0 es σ0).env) (ya.ev (fold E 0 es σ0).env) (obOf (fold E 0 es σ0).heap) (fun u=>u=⟨v0,[id],[(d,o0)]⟩):=k2'
     obtain ⟨hd,lo,n,xs',t0,hxa,hob⟩:=app_at k2''
     subst hd
     have hid:id∈e.touch:=by
      rw [k4,←hvals]
      simp [MIns.opds,MIns.touch,hxa,vid]
     have h8:=hheap id hid
     have h9:find id (fold E 0 es σ0).heap=_:=hob
     rw [h8,hfd] at h9
     cases h9
     have h7:=hpa id ka lo n ka xs t hxa hob
     have hne:id≠m.d:=by
      obtain ⟨_,_,_,_,_,_,hy2,_,_,hne⟩:=late_inv hla.ok
      rw [hy] at hy2;cases hy2;exact hne
     refine h7.w (hs.agree id fun o' ho'=>?_) ?_
     ·simp at ho';exact hne ho'.1
     ·rw [hsameH]
      unfold Ent.app
      rw [hy]
      exact ⟨o0,by simp [St.app,Eff.heap,puts,find_put]⟩
    ·exact keepP k1 hs l k x y hla hki hEl hEk v0 id d o0 hy kk xs t hfd
   ·refine ins_sound m.ins (d:=m.d) hins hR (fun id o h=>h) hcl k2' fun eff he g' v w' hs hf hv=>?_
    have he':eff=f:=he.elim id id
    subst he'
    refine fin0 hs hf hv fun l k x y hla hEl hEk=>?_
    by_cases hki:k=i
    ·exfalso
     subst hki
     obtain ⟨q,hq1,hq2⟩:=hla.mark
     exact happ (lateOK_at (all:=ms) (l:=l) hlate hq1 hms hq2).1
    ·exact keepP k1 hs l k x y hla hki hEl hEk
 simp only [wpOp,ho]
 rcases hev with ⟨hg,hr⟩|⟨s,want,b,hg,hb,hsu,hr⟩|⟨s,want,hg,hb,hsu,hr⟩
 ·rw [hg] at h3
  simp only [guard_none h3,if_true]
  exact .inl (ran _ hr)
 ·rw [hg] at h3
  have hb':get s (fold E 0 es σ0).env=.bool b:=by rw [get_find,henv s hsu,←get_find];exact hb
  rw [guard_wanted h3 hR hb']
  rcases hr with ⟨rfl,hr⟩|⟨hbn,hr⟩
  ·have hw:beqB b b=true:=by cases b<;>rfl
   simp only [hw,if_true]
   exact .inl (ran _ hr)
  ·have hw:beqB b want=false:=by rw [hbn];cases want<;>rfl
   simp only [hw,xI,if_false]
   refine hK g _ w (one ?_) (idle hr)
   have:e.app (fold E 0 es σ0)=⟨delE m.dst (fold E 0 es σ0).env,(fold E 0 es σ0).heap⟩:=by unfold Ent.app;rw [hr,hdst]
   rw [this,←hdd]
   exact hR.undef' hlt
 ·rw [hg] at h3
  have hb':get s (fold E 0 es σ0).env=.tup []:=by rw [get_find,henv s hsu,←get_find];exact hb
  rw [guard_tup h3 hR hb']
  simp only [xI,if_false]
  refine hK g _ w (one ?_) (idle hr)
  have:e.app (fold E 0 es σ0)=⟨delE m.dst (fold E 0 es σ0).env,(fold E 0 es σ0).heap⟩:=by unfold Ent.app;rw [hr,hdst]
  rw [this,←hdd]
  exact hR.undef' hlt
theorem any_sound (hlate:lateOK ms ms anc=true) (hok:mopsOK P c.nt ops ms ops.toList=true) (haft:aftOK aft ops.toList=true) (hanc:ancOK anc 0 aft anc=true) (hchk:chkAll c.H0 σ0 0 anc es=true) (hevs:Evs P c.H0 ms es σ0)
  (hK:∀g a w,Rel P c g (foldA es σ0) a w→Q .normal a w):∀(fuel:Nat) (E:Nat→Bool) (listed:Array Bool) (g:Gh) (a:Act) (w:World),listed.size=ops.size→(∀i,i<ops.size→listed.getD i true=E i∧listed.getD i false=E i) →
   (∀k a,aft[k]?=some a→E k=true→∀x∈a,E x=true)→((List.range ops.size).filter fun i=>!E i).length≤fuel→Rel P c g (fold E 0 es σ0) a w→PinInv anc es σ0 E g w→wpAny P .any ops Q fuel listed a w:=by
 have hml:ms.length=ops.size:=by rw [mopsOK_len hok,xB]
 have hel:es.length=ops.size:=by rw [evs_len hevs,hml]
 have hat:∀{i:Nat} {o:Oper},ops[i]?=some o→∃b,aft[i]?=some b∧b=(o.after.toList.filter (Region.binds .any)).map (·.on):=fun ho=>aftOK_at haft (by rw [zU];exact ho)
 have hal:aft.length=ops.size:=by
  have:∀{aft:List (List Nat)} {os:List Oper},aftOK aft os=true→aft.length=os.length:=by
   intro aft
   induction aft with
   | nil=>intro os h;cases os with|nil=>rfl|cons _ _=>cases h
   | cons a r ih =>
    intro os h
    cases os with
    | nil=>cases h
    | cons o s=>simp only [aftOK,x4] at h;simp only [xX,ih h.2]
  rw [this haft,xB]
 have done:∀(E:Nat→Bool) (listed:Array Bool),(∀i,i<ops.size→listed.getD i true=E i∧listed.getD i false=E i)→Region.ready .any ops listed=[]→∀i,i<ops.size→E i=true:=by
  intro E listed hls hr i
  induction i using Nat.strongRecOn with
  | _ i ih =>
   intro hi
   cases hE:E i with
   | true=>rfl
   | false =>
    exfalso
    have ho:ops[i]?=some ops[i]:=zI hi
    have:i∈Region.ready .any ops listed:=by
     rw [mem_ready]
     refine ⟨by rw [(hls i hi).1];exact hE,ops[i],ho,fun ed hed hb=>?_⟩
     obtain ⟨b,hb1,hb2⟩:=hat ho
     obtain ⟨_,_,hbel,_⟩:=ancOK_at hanc hb1
     have hmem:ed.on∈b:=by rw [hb2];exact w4.2 ⟨ed,wC.2 ⟨by simpa using hed,hb⟩,rfl⟩
     have hlt:=below_inv hbel _ hmem
     rw [wV] at hlt
     rw [(hls ed.on (by omega)).2]
     exact ih ed.on hlt (by omega)
    rw [hr] at this;cases this
 have fin:∀(E:Nat→Bool) (listed:Array Bool) g a w,(∀i,i<ops.size→listed.getD i true=E i∧listed.getD i false=E i)→Rel P c g (fold E 0 es σ0) a w→Region.ready .any ops listed=[]→Q .normal a w:=fun E listed g a w hls hR hr=>by
  have hall:=done E listed hls hr
  rw [fold_all fun k hk=>by rw [wV];exact hall k (by omega)] at hR
  exact hK g a w hR
 intro fuel
 induction fuel with
 | zero =>
  intro E listed g a w hsz hls hdown hcard hR hP
  have hr:Region.ready .any ops listed=[]:=by
   cases hrr:Region.ready .any ops listed with
   | nil=>rfl
   | cons i r =>
    exfalso
    have hmem:i∈Region.ready .any ops listed:=by rw [hrr];exact xE
    obtain ⟨h1,o,ho,_⟩:=mem_ready.1 hmem
    have hi:=(zF.1 ho).1
    rw [(hls i hi).1] at h1
    have:i∈(List.range ops.size).filter fun i=>!E i:=wC.2 ⟨List.mem_range.2 hi,by simp [h1]⟩
    rw [zB (Nat.le_zero.1 hcard)] at this
    cases this
  exact ⟨hr,fin E listed g a w hls hR hr⟩
 | succ fuel ih =>
  intro E listed g a w hsz hls hdown hcard hR hP
  refine ⟨fun hr=>fin E listed g a w hls hR hr,fun i hmem=>?_⟩
  obtain ⟨h1,o,ho,hedges⟩:=mem_ready.1 hmem
  have hi:=(zF.1 ho).1
  rw [(hls i hi).1] at h1
  obtain ⟨m,hms,hmok⟩:=mopsOK_at hok (by rw [zU];exact ho)
  have hie:es[i]?=some es[i]:=zJ (by omega)
  obtain ⟨b,hb1,hb2⟩:=hat ho
  obtain ⟨_,_,hbel,_⟩:=ancOK_at hanc hb1
  have hbE:∀x∈b,E x=true:=fun x hx=>by
   have hlt:=below_inv hbel _ hx
   rw [wV] at hlt
   rw [hb2] at hx
   obtain ⟨ed,hed,rfl⟩:=w4.1 hx
   obtain ⟨hed1,hed2⟩:=wC.1 hed
   rw [←(hls ed.on (by omega)).2]
   exact hedges ed (by simpa using hed1) hed2
  have hp:Part aft E i:=⟨hdown,h1,fun a' ha'=>by rw [hb1] at ha';cases ha';exact hbE⟩
  have hev:=evs_at (i:=0) (k:=i) hevs hms hie
  rw [wV] at hev
  refine step_any hlate hevs hms hanc hchk (by omega) hp ho hmok hie hev hR hP fun g' a' w' hR' hP'=>?_
  refine ih (setE1 E i) _ g' a' w' (by simpa using hsz) (fun k hk=>?_) (fun k a' ha' hE x hx=>?_) ?_ hR' hP'
  ·by_cases hki:k=i
   ·subst hki
    rw [setE1_same]
    have:k<listed.size:=by omega
    simp [this]
   ·rw [setE1_ne hki,getD_set_ne true (Ne.symm hki),getD_set_ne false (Ne.symm hki)]
    exact hls k hk
  ·by_cases hki:k=i
   ·subst hki
    rw [hb1] at ha';cases ha'
    have hne:x≠k:=fun h=>by have:=hbE x hx;rw [h,h1] at this;cases this
    rw [setE1_ne hne];exact hbE x hx
   ·rw [setE1_ne hki] at hE
    have:=hdown k a' ha' hE x hx
    by_cases hxi:x=i
    ·rw [hxi];exact setE1_same
    ·rw [setE1_ne hxi];exact this
  ·have hlt:((List.range ops.size).filter fun k=>!setE1 E i k).length<((List.range ops.size).filter fun k=>!E k).length:=by
    have hsub:((List.range ops.size).filter fun k=>!setE1 E i k)=(((List.range ops.size).filter fun k=>!E k).filter fun k=>!Nat.beq k i):=by
     rw [List.filter_filter]
     refine List.filter_congr fun k _=>?_
     unfold setE1
     cases Nat.beq k i<;>cases E k<;>rfl
    rw [hsub]
    refine List.length_filter_lt_length_iff_exists.2 ⟨i,wC.2 ⟨List.mem_range.2 hi,by simp [h1]⟩,by simp⟩
   omega
theorem regionD_ops {K:St→Prop} {g:Gh} {a:Act} {w:World} (hmix:P.follows .mixedOrders=true) (hK:∀σ' g' a' w',K σ'→Rel P c g' σ' a' w'→Q .normal a' w') (hok:mopsOK P c.nt ops ms ops.toList=true) (haft:aftOK aft ops.toList=true)
  (hanc:ancOK anc 0 aft anc=true) (hlate:lateOK ms ms anc=true) (hR:Rel P c g σ0 a w) (h:runD P c.H0 ms [] σ0 fun log σ'=>chkAll c.H0 σ0 0 anc log.reverse=true∧K σ') (t:Nat):wpOps P ops Q (Region.schedule (P.follows .mixedOrders) ops t) a { w with drawn:=w.drawn+1 }:=by
 obtain ⟨es,hevs,hchk,hk⟩:=runD_evs h
 rw [wH,List.reverse_reverse] at hchk
 simp only [Region.schedule,hmix,Bool.true_or,if_true]
 refine wpAny_sound ops.size t _ a _ (any_sound hlate hok haft hanc hchk hevs (fun g a w hr=>hK _ g a w hk hr) ops.size (fun _=>false) _ g a _ (by simp) (fun i hi=>by simp [hi]) (fun _ _ _ h=>by cases h) ?_ ?_ (fun _ _ _ _ _ _ h=>by cases h))
 ·exact wW (List.length_filter_le _ _) (by simp)
 ·rw [fold_none (fun _=>rfl)]
  exact hR.drew
end
end Go.Ab
namespace Go.Ab
open Go.RowKit
inductive Note where
 | gc (keep:List Nat)
 | acc (s id k:Nat)
 | shut (id:Nat)
 | shq (id:Nat)
 | fact (s:Nat)
 | ren (a b:Nat)
 | renq (a b:Nat)
 | ownC (id off id2 k:Nat) (ty:Option TypeId)
 | fz (s:Nat)
 | trim (s:Nat)
 | fzc (s:Nat)
 | bld (id:Nat)
 | nm (id z k:Nat)
 | adq (s q:Nat)
 | toA (s q:Nat)
 | ofA (s q:Nat)
 | accA (s off id k:Nat)
def V.isB (id:Nat):V→Bool
 | .nilp=>true
 | .ptr j off=>Nat.beq j id&&Nat.beq off 0
 | .bptr j=>Nat.beq j id
 | _=>false
mutual
def V.fact:V→Prop
 | .int k n=>rng k n
 | .str s=>s.length≤9223372036854775807
 | .sl xs=>xs.length≤9223372036854775807∧factA xs
 | .osl _ _ _ n=>n≤9223372036854775807
 | .agg cs=>V.factL cs
 | .tup cs=>V.factL cs
 | .eptr x _=>x.fact
 | _=>True
def V.factL:List V→Prop
 | []=>True
 | x::r=>x.fact∧V.factL r
def factA:List V→Prop
 | []=>True
 | x::r=>x.fact∧factA r
end
theorem factA_iff:∀{xs:List V},factA xs↔∀x∈xs,x.fact
 | []=>by simp [factA]
 | x::r=>by simp [factA,factA_iff (xs:=r)]
theorem factL_iff:∀{xs:List V},V.factL xs↔∀x∈xs,x.fact
 | []=>by simp [V.factL]
 | x::r=>by simp [V.factL,factL_iff (xs:=r)]
theorem maxLen_le {n:Nat} (h:n≤maxLen):n≤9223372036854775807:=wW h (by unfold maxLen;decide)
theorem fact_cells {x:V} (h:∀(j:Nat) (c:V),x.cells[j]?=some c→c.fact):x.fact:=by
 cases x with
 | agg cs =>
  simp only [V.fact]
  refine factL_iff.2 fun c hc=>?_
  obtain ⟨j,hj⟩:=zS.1 hc
  exact h j c hj
 | _=>exact h 0 _ rfl
theorem Rd.fact {S:Nat→Prop} {w:World} {v:Value} {x:V} (h:Rd S w v x):x.fact:=by
 induction h with
 | int k n h=>exact rng_iff.1 h
 | str s h =>
  simp only [V.fact]
  have:s.data.toList.length=s.size:=by rw [xB];rfl
  rw [this];exact maxLen_le h
 | agg vs cs hl hr ih =>
  simp only [V.fact]
  refine factL_iff.2 fun c hc=>?_
  obtain ⟨j,hj⟩:=zS.1 hc
  exact ih j c hj
 | nilsl=>simp [V.fact,factA]
 | slz a cap=>simp [V.fact,factA]
 | sl g o len cap k cur e fz xs hS hg hl hm hc hb hk hr ih =>
  simp only [V.fact]
  refine ⟨by rw [hl];exact maxLen_le hm,factA_iff.2 fun x hx=>?_⟩
  obtain ⟨i,hi⟩:=zS.1 hx
  exact fact_cells fun j c hj=>ih i j x c hi hj
 | _=>simp [V.fact]
theorem VR.fact {g:Gh} {w:World} {v:Value} {x:V} (h:VR g w v x):x.fact:=by
 induction h with
 | rd h=>exact h.fact
 | eptr b o off cur e fz x hS hg hb hr=>simp only [V.fact];exact fact_cells fun j c hc=>(hr j c hc).fact
 | oslnil=>simp [V.fact]
 | osl id k lo len o c h ho hc hl hm=>simp only [V.fact];exact maxLen_le (wW hl hm)
 | agg vs cs hl hr ih =>
  simp only [V.fact]
  refine factL_iff.2 fun c hc=>?_
  obtain ⟨j,hj⟩:=zS.1 hc
  exact ih j c hj
 | tup vs cs hl hr ih =>
  simp only [V.fact]
  refine factL_iff.2 fun c hc=>?_
  obtain ⟨j,hj⟩:=zS.1 hc
  exact ih j c hj
 | _=>simp [V.fact]
def factsE:List (Nat×V)→Prop
 | []=>True
 | (_,x)::r=>x.fact∧factsE r
def Obj'.fact:Obj'→Prop
 | .arr _ xs _=>xs.length≤9223372036854775807∧factA xs
 | .cells cs _=>V.factL cs
 | .map _ es=>∀e∈es,e.1.fact∧e.2.fact
 | .iter es _=>∀e∈es,e.1.fact∧e.2.fact
 | .mark=>True
 | .nmap _ _ _ es=>∀e∈es,e.1.fact∧e.2.fact
def factsH:Heap→Prop
 | []=>True
 | (_,x)::r=>x.fact∧factsH r
theorem OR.fact {g:Gh} {w:World} {id:Nat} {o:Obj'} (h:OR g w id o):o.fact:=by
 cases o with
 | cells cs ty =>
  obtain ⟨_,cur,e,fz,_,_,_,h4⟩:=h
  refine factL_iff.2 fun c hc=>?_
  obtain ⟨j,hj⟩:=zS.1 hc
  exact (h4 j c hj).fact
 | arr k xs ty =>
  rcases h with ⟨_,rfl⟩|⟨_,_,⟨cur,e,fz,_,_,_,h4⟩,h5,h6,_⟩
  ·simp [Obj'.fact,factA]
  ·refine ⟨maxLen_le (by omega),factA_iff.2 fun x hx=>?_⟩
   obtain ⟨i,hi⟩:=zS.1 hx
   exact fact_cells fun j c hj=>(h4 i j x c hi hj).fact
 | map kd es =>
  obtain ⟨_,ents,clock,_,he,_⟩:=h
  intro kv hm
  obtain ⟨i,hi⟩:=zS.1 hm
  have hlt:i<ents.toList.length:=by
   rw [he.len];exact (zG.1 hi).1
  obtain ⟨h5,h6⟩:=he.rd i ents.toList[i] kv (zJ hlt) hi
  exact ⟨h5.fact,h6.fact⟩
 | mark=>trivial
 | nmap z k kd es =>
  obtain ⟨_,ents,clock,_,he,_⟩:=h
  intro kv hm
  obtain ⟨i,hi⟩:=zS.1 hm
  have hlt:i<ents.toList.length:=by
   rw [he.len];exact (zG.1 hi).1
  obtain ⟨h5,h6⟩:=he.rd i ents.toList[i] kv (zJ hlt) hi
  exact ⟨h5.fact,h6.fact⟩
 | iter rem cur =>
  obtain ⟨_,h⟩:=h
  rcases h with ⟨x,y,z,_,rfl,_⟩|⟨m,clock,seen,ents,_,_,_,_,_,hl,hr,_⟩
  ·intro kv hm;cases hm
  ·intro kv hm
   obtain ⟨i,hi⟩:=zS.1 hm
   have hlt:i<(ents.toList.filter fun e=>!seen.contains e.born).length:=by
    rw [hl];exact (zG.1 hi).1
   obtain ⟨h5,h6⟩:=hr i _ kv (zJ hlt) hi
   exact ⟨h5.fact,h6.fact⟩
mutual
def V.ren (a b:Nat):V→V
 | .ptr id off=>.ptr (bif Nat.beq id a then b else id) off
 | .osl id k lo n=>.osl (bif Nat.beq id a then b else id) k lo n
 | .optr id k i off=>.optr (bif Nat.beq id a then b else id) k i off
 | .omap id=>.omap (bif Nat.beq id a then b else id)
 | .bptr id=>.bptr (bif Nat.beq id a then b else id)
 | .nsl z k xs=>.nsl (bif Nat.beq z a then b else z) k xs
 | .nsmap z k kd es=>.nsmap (bif Nat.beq z a then b else z) k kd es
 | .at_ id x=>.at_ (bif Nat.beq id a then b else id) x
 | .agg cs=>.agg (V.renL a b cs)
 | .tup cs=>.tup (V.renL a b cs)
 | .fn f cs=>.fn f (V.renL a b cs)
 | x=>x
def V.renL (a b:Nat):List V→List V
 | []=>[]
 | x::r=>x.ren a b::V.renL a b r
end
def renE (a b:Nat):List (Nat×V)→List (Nat×V)
 | []=>[]
 | (n,x)::r=>(n,x.ren a b)::renE a b r
def Obj'.ren (a b:Nat):Obj'→Obj'
 | .cells cs t=>.cells (V.renL a b cs) t
 | .nmap z k kd es=>.nmap (bif Nat.beq z a then b else z) k kd es
 | o=>o
def renH (a b:Nat):Heap→Heap
 | []=>[]
 | (n,o)::r=>(bif Nat.beq n a then b else n,o.ren a b)::renH a b r
mutual
def V.shut (n:Nat) (xs:List V):V→V
 | .osl id k lo len=>bif Nat.beq n id then .sl ((xs.drop lo).take len) else .osl id k lo len
 | .agg cs=>.agg (V.sealL n xs cs)
 | .tup cs=>.tup (V.sealL n xs cs)
 | .fn f cs=>.fn f (V.sealL n xs cs)
 | .ptr id off=>bif Nat.beq n id then .any else .ptr id off
 | .optr id k i off=>bif Nat.beq n id then .any else .optr id k i off
 | .omap id=>bif Nat.beq n id then .any else .omap id
 | .bptr id=>bif Nat.beq n id then .any else .bptr id
 | x=>x
def V.sealL (n:Nat) (xs:List V):List V→List V
 | []=>[]
 | x::r=>x.shut n xs::V.sealL n xs r
end
mutual
def V.sealOK (n k m:Nat):V→Prop
 | .osl id k' lo len=>bif Nat.beq n id then (bif Nat.beq k k' then lo+len≤m else False) else True
 | .agg cs=>V.sealOKs n k m cs
 | .tup cs=>V.sealOKs n k m cs
 | .fn _ cs=>V.sealOKs n k m cs
 | _=>True
def V.sealOKs (n k m:Nat):List V→Prop
 | []=>True
 | x::r=>x.sealOK n k m∧V.sealOKs n k m r
end
def sealE (n:Nat) (xs:List V):List (Nat×V)→List (Nat×V)
 | []=>[]
 | (m,x)::r=>(m,x.shut n xs)::sealE n xs r
def sealEOK (n k m:Nat):List (Nat×V)→Prop
 | []=>True
 | (_,x)::r=>x.sealOK n k m∧sealEOK n k m r
def Obj'.shut (n:Nat) (xs:List V):Obj'→Obj'
 | .cells cs t=>.cells (V.sealL n xs cs) t
 | o=>o
def Obj'.sealOK (n k m:Nat):Obj'→Prop
 | .cells cs _=>V.sealOKs n k m cs
 | _=>True
def sealH (n:Nat) (xs:List V):Heap→Heap
 | []=>[]
 | (m,o)::r=>bif Nat.beq n m then sealH n xs r else (m,o.shut n xs)::sealH n xs r
def sealHOK (n k m:Nat):Heap→Prop
 | []=>True
 | (_,x)::r=>x.sealOK n k m∧sealHOK n k m r
mutual
def V.shm (n:Nat) (y:V):V→V
 | .omap id=>bif Nat.beq n id then y else .omap id
 | .agg cs=>.agg (V.shmL n y cs)
 | .tup cs=>.tup (V.shmL n y cs)
 | .fn f cs=>.fn f (V.shmL n y cs)
 | x=>x
def V.shmL (n:Nat) (y:V):List V→List V
 | []=>[]
 | x::r=>V.shm n y x::V.shmL n y r
end
def shmE (n:Nat) (y:V):List (Nat×V)→List (Nat×V)
 | []=>[]
 | (m,x)::r=>(m,V.shm n y x)::shmE n y r
def Obj'.shm (n:Nat) (y:V):Obj'→Obj'
 | .cells cs t=>.cells (V.shmL n y cs) t
 | o=>o
def shmH (n:Nat) (y:V):Heap→Heap
 | []=>[]
 | (m,o)::r=>bif Nat.beq n m then shmH n y r else (m,o.shm n y)::shmH n y r
def filt (keep:List Nat):List (Nat×V)→List (Nat×V)
 | []=>[]
 | (n,x)::r=>bif mem n keep then (n,x)::filt keep r else filt keep r
def inHeap (n:Nat):Heap→Bool
 | []=>false
 | (m,_)::r=>Nat.beq n m||inHeap n r
mutual
def V.unnil:V→V
 | .nils=>.sl []
 | .agg cs=>.agg (V.unnilL cs)
 | x=>x
def V.unnilL:List V→List V
 | []=>[]
 | x::r=>x.unnil::V.unnilL r
end
mutual
def V.oids:V→List Nat
 | .osl id _ _ _=>[id]
 | .omap id=>[id]
 | .agg cs=>V.oidsL cs
 | .tup cs=>V.oidsL cs
 | _=>[]
def V.oidsL:List V→List Nat
 | []=>[]
 | x::r=>x.oids++V.oidsL r
end
def shq1 (id:Nat) (σ:St) (K:St→Prop):Prop :=
 match find id σ.heap with
 | some (.arr k xs _)=>sealEOK id k xs.length σ.env∧sealHOK id k xs.length σ.heap∧K ⟨sealE id xs σ.env,sealH id xs σ.heap⟩
 | some (.map kd es)=>K ⟨shmE id (.smap kd es) σ.env,shmH id (.smap kd es) σ.heap⟩
 | some (.nmap z k kd es)=>K ⟨shmE id (.nsmap z k kd es) σ.env,shmH id (.nsmap z k kd es) σ.heap⟩
 | none=>K σ
 | _=>False
def shqs:List Nat→St→(St→Prop)→Prop
 | [],σ,K=>K σ
 | id::r,σ,K=>shq1 id σ fun σ'=>shqs r σ' K
mutual
def V.tr (n lo len:Nat):V→V
 | .osl id k l m=>bif Nat.beq id n then (bif Nat.beq l lo&&Nat.beq m len then .osl id k 0 m else .any) else .osl id k l m
 | .ptr id off=>bif Nat.beq id n then .any else .ptr id off
 | .optr id k i off=>bif Nat.beq id n then .any else .optr id k i off
 | .omap id=>bif Nat.beq id n then .any else .omap id
 | .bptr id=>bif Nat.beq id n then .any else .bptr id
 | .nsl z k xs=>bif Nat.beq z n then .any else .nsl z k xs
 | .nsmap z k kd es=>bif Nat.beq z n then .any else .nsmap z k kd es
 | .agg cs=>.agg (V.trL n lo len cs)
 | .tup cs=>.tup (V.trL n lo len cs)
 | .fn f cs=>.fn f (V.trL n lo len cs)
 | x=>x
def V.trL (n lo len:Nat):List V→List V
 | []=>[]
 | x::r=>x.tr n lo len::V.trL n lo len r
end
def trE (n lo len:Nat):List (Nat×V)→List (Nat×V)
 | []=>[]
 | (m,x)::r=>(m,x.tr n lo len)::trE n lo len r
def Obj'.tr (n lo len:Nat):Obj'→Obj'
 | .cells cs t=>.cells (V.trL n lo len cs) t
 | .nmap z k kd es=>bif Nat.beq z n then .map kd es else .nmap z k kd es
 | o=>o
def trH (n lo len:Nat):Heap→Heap
 | []=>[]
 | (m,o)::r=>(m,o.tr n lo len)::trH n lo len r
def V.isNils:V→Bool
 | .nils=>true
 | _=>false
def stepNote (H0:Heap) (n:Note) (σ:St) (K:St→Prop):Prop :=
 match n with
 | .adq s q=>match find s σ.env,find q σ.env with
  | some (.ptr id _),some _=>∀b,K ⟨put q (.at_ id b) σ.env,σ.heap⟩
  | _,_=>False
 | .toA s q=>match find s σ.env,find q σ.env with
  | some (.ptr id off),some (.at_ id' b)=>bif Nat.beq id id' then K ⟨put s (.adr b off) σ.env,σ.heap⟩ else False
  | _,_=>False
 | .ofA s q=>match find s σ.env,find q σ.env with
  | some (.adr b off),some (.at_ id b')=>b=b'∧K ⟨put s (.ptr id off) σ.env,σ.heap⟩
  | _,_=>False
 | .nm id z k=>match find id σ.heap with
  | some (.map kd es)=>match find z σ.heap with
   | some .mark=>bif es.all fun e=>e.2.isNils then K ⟨σ.env,put id (.nmap z k kd (es.map fun e=>(e.1,.sl []))) σ.heap⟩ else False
   | _=>False
  | _=>False
 | .ownC id off id2 k ty=>match find id σ.heap with
  | some (.cells cs t)=>match cs[off]? with
   | some .nils=>bif cleanL H0 σ [id2]&&!inHeap id2 σ.heap&&!Nat.beq id id2 then K ⟨σ.env,put id (.cells (cs.set off (.osl id2 k 0 0)) t) (put id2 (.arr k [] ty) σ.heap)⟩ else False
   | some (.osl j _ _ _)=>bif Nat.beq j id2 then K σ else bif cleanL H0 σ [id2]&&!inHeap id2 σ.heap&&inHeap j σ.heap then K ⟨renE j id2 σ.env,renH j id2 σ.heap⟩ else False
   | _=>False
  | _=>False
 | .fz s=>match find s σ.env with
  | some x=>shqs x.oids σ fun σ'=>(match find s σ'.env with|some y=>K ⟨put s y.unnil σ'.env,σ'.heap⟩|none=>False)
  | none=>K σ
 | .fzc s=>match find s σ.env with
  | some (.ptr id _)=>match find id σ.heap with
   | some (.cells cs _)=>shqs (V.oidsL cs) σ fun σ'=>(match find id σ'.heap with|some (.cells ds t)=>K ⟨σ'.env,put id (.cells (V.unnilL ds) t) σ'.heap⟩|_=>False)
   | _=>False
  | _=>False
 | .bld id=>match find id σ.heap with
  | some (.cells (x::cs) t)=>bif x.isB id then K ⟨σ.env,put id (.cells (.bptr id::cs) t) σ.heap⟩ else False
  | _=>False
 | .trim s=>match find s σ.env with
  | some (.osl id k lo n)=>match find id σ.heap,find id H0 with
   | some (.arr k' xs t),none=>bif Nat.beq k k' then K ⟨trE id lo n σ.env,put id (.arr k ((xs.drop lo).take n) t) (trH id lo n σ.heap)⟩ else False
   | _,_=>False
  | _=>K σ
 | .gc keep=>K ⟨filt keep σ.env,σ.heap⟩
 | .fact s=>(get s σ.env).fact→K σ
 | .ren j id=>bif cleanL H0 σ [id]&&!inHeap id σ.heap&&!Nat.beq j id then K ⟨renE j id σ.env,renH j id σ.heap⟩ else False
 | .renq j id=>bif inHeap j σ.heap then (bif cleanL H0 σ [id]&&!inHeap id σ.heap&&!Nat.beq j id then K ⟨renE j id σ.env,renH j id σ.heap⟩ else False) else K σ
 | .shq id=>match find id σ.heap with
  | some (.arr k xs _)=>sealEOK id k xs.length σ.env∧sealHOK id k xs.length σ.heap∧K ⟨sealE id xs σ.env,sealH id xs σ.heap⟩
  | some (.map kd es)=>K ⟨shmE id (.smap kd es) σ.env,shmH id (.smap kd es) σ.heap⟩
  | some (.nmap z k kd es)=>K ⟨shmE id (.nsmap z k kd es) σ.env,shmH id (.nsmap z k kd es) σ.heap⟩
  | none=>K σ
  | _=>False
 | .shut id=>match find id σ.heap with
  | some (.arr k xs _)=>sealEOK id k xs.length σ.env∧sealHOK id k xs.length σ.heap∧K ⟨sealE id xs σ.env,sealH id xs σ.heap⟩
  | some (.map kd es)=>K ⟨shmE id (.smap kd es) σ.env,shmH id (.smap kd es) σ.heap⟩
  | some (.nmap z k kd es)=>K ⟨shmE id (.nsmap z k kd es) σ.env,shmH id (.nsmap z k kd es) σ.heap⟩
  | _=>False
 | .accA s off id k=>match find s σ.env with
  | some (.agg cs)=>match cs[off]? with
   | some .nils=>bif cleanL H0 σ [id]&&!inHeap id σ.heap then K ⟨put s (.agg (cs.set off (.osl id k 0 0))) σ.env,put id (.arr k []) σ.heap⟩ else False
   | some (.osl j _ _ _)=>bif Nat.beq j id then K σ else bif cleanL H0 σ [id]&&!inHeap id σ.heap&&inHeap j σ.heap then K ⟨renE j id σ.env,renH j id σ.heap⟩ else False
   | _=>False
  | _=>False
 | .acc s id k=>match get s σ.env with
  | .nils=>bif cleanL H0 σ [id]&&!inHeap id σ.heap then K ⟨put s (.osl id k 0 0) σ.env,put id (.arr k []) σ.heap⟩ else False
  | .osl j _ _ _=>bif Nat.beq j id then K σ else bif cleanL H0 σ [id]&&!inHeap id σ.heap&&inHeap j σ.heap then K ⟨renE j id σ.env,renH j id σ.heap⟩ else False
  | _=>False
section
variable {P:Program} {c:Ctx} {g:Gh} {σ:St} {a:Act} {w:World}
theorem find_filt {keep:List Nat} {s:Nat} {x:V}:∀{env:List (Nat×V)},find s (filt keep env)=some x→find s env=some x
 | [],h=>by cases h
 | (m, y)::r,h=>by
  simp only [filt] at h
  cases hb:Nat.beq s m with
  | true =>
   have e:=zR hb;subst e
   cases hm:mem s keep with
   | true=>rw [hm] at h;simpa [find] using h
   | false =>
    rw [hm] at h
    simp only [vB] at h
    have no:∀{env:List (Nat×V)},find s (filt keep env)=none:=by
     intro env
     induction env with
     | nil=>rfl
     | cons p r ih =>
      obtain ⟨q,z⟩:=p
      simp only [filt]
      cases hq:mem q keep with
      | false=>simpa using ih
      | true =>
       simp only [vD,find]
       cases hs:Nat.beq s q with
       | true=>have e:=zR hs;subst e;rw [hm] at hq;cases hq
       | false=>simpa using ih
    rw [no] at h;cases h
  | false =>
   simp only [find,hb,vB]
   cases hm:mem m keep with
   | true=>rw [hm] at h;simp only [vD,find,hb,vB] at h;exact find_filt h
   | false=>rw [hm] at h;exact find_filt h
theorem renL_map (p q:Nat):∀cs:List V,V.renL p q cs=cs.map (V.ren p q)
 | []=>rfl
 | x::r=>by simp [V.renL,renL_map p q r]
theorem find_renE (p q s:Nat):∀env:List (Nat×V),find s (renE p q env)=(find s env).map (V.ren p q)
 | []=>rfl
 | (m,x)::r=>by
  simp only [renE,find]
  cases Nat.beq s m with
  | true=>rfl
  | false=>exact find_renE p q s r
theorem inHeap_find {n:Nat}:∀{H:Heap},inHeap n H=true↔∃o,find n H=some o
 | []=>by simp [inHeap,find]
 | (m,x)::r=>by
  simp only [inHeap,find]
  cases Nat.beq n m with
  | true=>simp
  | false=>simpa using inHeap_find
theorem find_renH {p q:Nat} (hpq:p≠q):∀{H:Heap},inHeap q H=false→∀n o,find n (renH p q H)=some o→(n=q∧∃o',find p H=some o'∧o=o'.ren p q)∨(n≠q∧n≠p∧∃o',find n H=some o'∧o=o'.ren p q)
 | [],_,n,o,h=>by cases h
 | (m,x)::r,hq,n,o,h=>by
  simp only [inHeap,z8] at hq
  obtain ⟨hqm,hqr⟩:=hq
  have ih:=find_renH hpq hqr n o
  have hmq:m≠q:=fun e=>by rw [e,wY] at hqm;cases hqm
  simp only [renH] at h
  by_cases hm:m=p
  ·subst hm
   simp only [wY,vD,find] at h
   by_cases hn:n=q
   ·subst hn
    simp only [wY,vD,xL] at h
    exact .inl ⟨rfl,x,by simp [find],h.symm⟩
   ·have hb:Nat.beq n q=false:=by
     cases hb:Nat.beq n q with
     | true=>exact absurd (zR hb) hn
     | false=>rfl
    simp only [hb,vB] at h
    rcases ih h with ⟨h1,_⟩|⟨h1,h2,o',h3,h4⟩
    ·exact absurd h1 hn
    ·have hb':Nat.beq n m=false:=by
      cases hb:Nat.beq n m with
      | true=>exact absurd (zR hb) h2
      | false=>rfl
     exact .inr ⟨h1,h2,o',by simp only [find,hb',vB];exact h3,h4⟩
  ·have hb:Nat.beq m p=false:=by
    cases hb:Nat.beq m p with
    | true=>exact absurd (zR hb) hm
    | false=>rfl
   simp only [hb,vB,find] at h
   by_cases hn:n=m
   ·subst hn
    simp only [wY,vD,xL] at h
    exact .inr ⟨hmq,hm,x,by simp [find],h.symm⟩
   ·have hb':Nat.beq n m=false:=by
     cases hb:Nat.beq n m with
     | true=>exact absurd (zR hb) hn
     | false=>rfl
    simp only [hb',vB] at h
    rcases ih h with ⟨h1,o',h3,h4⟩|⟨h1,h2,o',h3,h4⟩
    ·refine .inl ⟨h1,o',?_,h4⟩
     have hb2:Nat.beq p m=false:=by
      cases hb:Nat.beq p m with
      | true=>exact absurd (zR hb).symm hm
      | false=>rfl
     simp only [find,hb2,vB];exact h3
    ·exact .inr ⟨h1,h2,o',by simp only [find,hb',vB];exact h3,h4⟩
def Gh.dup (g:Gh) (p q:Nat):Gh :=
 ⟨g.S,fun i=>if i=q then g.ρ p else g.ρ i,fun i=>if i=q then g.base p else g.base i,fun i=>if i=q then g.cap p else g.cap i,fun i=>if i=q then g.nil p else g.nil i⟩
theorem dup_agree {g:Gh} {p q i:Nat} (h:i≠q):g.agree (g.dup p q) i:=by simp [Gh.agree,Gh.dup,h]
theorem dup_all {g:Gh} {p q i:Nat} (h:i≠q):(g.dup p q).ρ (bif Nat.beq i p then q else i)=g.ρ i∧(g.dup p q).base (bif Nat.beq i p then q else i)=g.base i∧(g.dup p q).cap (bif Nat.beq i p then q else i)=g.cap i ∧
  ((g.dup p q).nil (bif Nat.beq i p then q else i)↔g.nil i):=by
 by_cases e:i=p
 ·subst e;simp [Gh.dup]
 ·have:Nat.beq i p=false:=by
   cases hb:Nat.beq i p with
   | true=>exact absurd (zR hb) e
   | false=>rfl
  simp [this,Gh.dup,h]
theorem VR.ren {p q:Nat} {v:Value} {x:V} (h:VR g w v x) (hq:x.has q=false):VR (g.dup p q) w v (x.ren p q):=by
 have hne:∀{i:Nat},Nat.beq q i=false→i≠q:=fun h e=>by rw [e,wY] at h;cases h
 induction h with
 | @rd v x h =>
  have:x.ren p q=x:=by
   have flat:∀{y:V} {u:Value},Rd g.S w u y→y.ren p q=y:=by
    intro y u hy
    induction hy with
    | agg vs cs hl hr ih =>
     simp only [V.ren,renL_map,V.agg.injEq]
     refine xP fun i=>?_
     rw [xN]
     cases hc:cs[i]? with
     | none=>rfl
     | some c=>simp [ih i c hc]
    | _=>rfl
   exact flat h
  rw [this];exact .rd h
 | any v=>exact .any v
 | ptr id off =>
  simp only [V.has] at hq
  have:=(dup_all (g:=g) (p:=p) (hne hq)).1
  simp only [V.ren];rw [←this];exact .ptr _ off
 | eptr b o off cur e fz x hS hg hb hr=>exact .eptr b o off cur e fz x hS hg hb hr
 | oslnil id k lo h =>
  simp only [V.has] at hq
  exact .oslnil _ k lo ((dup_all (hne hq)).2.2.2.2 h)
 | osl id k lo len o c h ho hc hl hm =>
  simp only [V.has] at hq
  obtain ⟨h1,h2,h3,h4⟩:=dup_all (g:=g) (p:=p) (hne hq)
  simp only [V.ren];rw [←h1]
  exact .osl _ k lo len o c (fun h'=>h (h4.1 h')) (by rw [h2];exact ho) (by rw [h3];exact hc) hl hm
 | optr id k i off =>
  simp only [V.has] at hq
  obtain ⟨h1,h2,h3,h4⟩:=dup_all (g:=g) (p:=p) (hne hq)
  simp only [V.ren];rw [←h1,←h2];exact .optr _ k i off
 | omap id =>
  simp only [V.has] at hq
  have:=(dup_all (g:=g) (p:=p) (hne hq)).1
  simp only [V.ren];rw [←this];exact .omap _
 | bnil id=>exact .bnil _
 | bself id =>
  simp only [V.has] at hq
  have:=(dup_all (g:=g) (p:=p) (hne hq)).1
  simp only [V.ren];rw [←this];exact .bself _
 | at_ id b v h =>
  simp only [V.has] at hq
  simp only [V.ren];exact .at_ _ b v ((dup_all (g:=g) (p:=p) (hne hq)).1.trans h)
 | nsl z k xs v h =>
  simp only [V.has] at hq
  have:=(dup_all (g:=g) (p:=p) (hne hq)).2.1
  simp only [V.ren];exact .nsl _ k xs v (by rw [this];exact h)
 | nsmap b z k kd ents clock es hr hS hg hn =>
  simp only [V.has] at hq
  have:=(dup_all (g:=g) (p:=p) (hne hq)).2.1
  simp only [V.ren];exact .nsmap b _ k kd ents clock es hr hS hg fun i ent kv h1 h2=>by rw [this];exact hn i ent kv h1 h2
 | agg vs cs hl hr ih =>
  simp only [V.ren,renL_map]
  refine .agg vs _ (by simpa using hl) fun i c hc=>?_
  rw [xN] at hc
  cases hx:cs[i]? with
  | none=>rw [hx] at hc;cases hc
  | some y=>rw [hx] at hc;cases hc;exact ih i y hx (V.hasL_mem (zZ hx) (by simpa [V.has] using hq))
 | tup vs cs hl hr ih =>
  simp only [V.ren,renL_map]
  refine .tup vs _ (by simpa using hl) fun i c hc=>?_
  rw [xN] at hc
  cases hx:cs[i]? with
  | none=>rw [hx] at hc;cases hc
  | some y=>rw [hx] at hc;cases hc;exact ih i y hx (V.hasL_mem (zZ hx) (by simpa [V.has] using hq))
 | fn f vs cs hl hr ih =>
  simp only [V.ren,renL_map]
  refine .fn f vs _ (by simpa using hl) fun i c hc=>?_
  rw [xN] at hc
  cases hx:cs[i]? with
  | none=>rw [hx] at hc;cases hc
  | some y=>rw [hx] at hc;cases hc;exact ih i y hx (V.hasL_mem (zZ hx) (by simpa [V.has] using hq))
 | bnd f vs cs hl hr ih =>
  simp only [V.ren,renL_map]
  refine .bnd f vs _ (by simpa using hl) fun i c hc=>?_
  rw [xN] at hc
  cases hx:cs[i]? with
  | none=>rw [hx] at hc;cases hc
  | some y=>rw [hx] at hc;cases hc;exact ih i y hx (V.hasL_mem (zZ hx) (by simpa [V.has] using hq))
theorem OR.ren {p q n:Nat} {o:Obj'} (h:OR g w n o) (hn:n≠q) (hq:o.has q=false):OR (g.dup p q) w (bif Nat.beq n p then q else n) (o.ren p q):=by
 obtain ⟨h1,h2,h3,h4⟩:=dup_all (g:=g) (p:=p) hn
 cases o with
 | cells cs ty =>
  obtain ⟨hnil,cur,e,fz,k1,k2,k3,k4⟩:=h
  refine ⟨fun h=>hnil (h4.1 h),cur,e,fz,by rw [h1];exact k1,by rw [renL_map];simpa using k2,k3,fun i c hc=>?_⟩
  rw [renL_map,xN] at hc
  cases hx:cs[i]? with
  | none=>rw [hx] at hc;cases hc
  | some y=>rw [hx] at hc;cases hc;exact (k4 i y hx).ren (V.hasL_mem (zZ hx) (by simpa [Obj'.has] using hq))
 | arr k xs ty =>
  rcases h with ⟨hnil,hx⟩|⟨hnil,ha⟩
  ·exact .inl ⟨h4.2 hnil,hx⟩
  ·refine .inr ⟨fun h=>hnil (h4.1 h),?_⟩
   rw [h1,h2,h3];exact ha
 | map kd es =>
  obtain ⟨hnil,ents,clock,k1,k2⟩:=h
  exact ⟨fun h=>hnil (h4.1 h),ents,clock,by rw [h1];exact k1,k2⟩
 | mark =>
  obtain ⟨k1,k2⟩:=h
  exact ⟨h4.2 k1,fun b hb=>k2 b (by rw [←h2];exact hb)⟩
 | nmap z k kd es =>
  obtain ⟨hnil,ents,clock,k1,k2,k3,k4,k5,k6⟩:=h
  have hz:z≠q:=fun e=>by simp [Obj'.has,e] at hq
  have:=(dup_all (g:=g) (p:=p) hz).2.1
  exact ⟨fun h=>hnil (h4.1 h),ents,clock,by rw [h1];exact k1,k2,k3,k4,fun i ent kv a1 a2=>by rw [this];exact k5 i ent kv a1 a2,fun b hb=>k6 b (by rw [←this];exact hb)⟩
 | iter rem cur =>
  obtain ⟨hnil,k1⟩:=h
  exact ⟨fun h=>hnil (h4.1 h),by rw [h1];exact k1⟩
theorem Rel.ren {p q:Nat} (h:Rel P c g σ a w) (hpq:p≠q) (hcl:Clean c σ q) (hin:inHeap q σ.heap=false):Rel P c (g.dup p q) ⟨renE p q σ.env,renH p q σ.heap⟩ a w:=by
 have hfind:∀n o,find n σ.heap=some o→n≠q:=fun n o hn e=>by
  have:=inHeap_find.2 ⟨o,hn⟩
  rw [e,hin] at this;cases this
 have ren_p:(bif Nat.beq p p then q else p)=q:=by simp
 have ren_n:∀{n},n≠p→(bif Nat.beq n p then q else n)=n:=fun {n} hn=>by
  have:Nat.beq n p=false:=by
   cases hb:Nat.beq n p with
   | true=>exact absurd (zR hb) hn
   | false=>rfl
  simp [this]
 have key:∀n o,find n (renH p q σ.heap)=some o→∃m o',find m σ.heap=some o'∧o=o'.ren p q∧n=(bif Nat.beq m p then q else m)∧m≠q:=fun n o hn=>by
  rcases find_renH hpq hin n o hn with ⟨h1,o',h2,h3⟩|⟨h1,h2,o',h3,h4⟩
  ·exact ⟨p,o',h2,h3,by rw [ren_p];exact h1,hfind _ _ h2⟩
  ·exact ⟨n,o',h3,h4,(ren_n h2).symm,h1⟩
 refine ⟨h.size,h.dfr,fun s x hx=>?_,⟨fun n o hn=>?_,fun i j o o' hi hj hni hnj he=>?_,fun n o hn hnil hS=>?_,h.hp.lt,h.hp.tabs⟩,⟨h.fr.os,h.fr.tape,h.fr.output,h.fr.size,h.fr.old,fun n o hn hnil=>?_,h.fr.sup,h.fr.sub,fun n o hn=>?_⟩⟩
 ·simp only [find_renE] at hx
  cases hy:find s σ.env with
  | none=>rw [hy] at hx;cases hx
  | some y =>
   rw [hy] at hx;cases hx
   obtain ⟨h1,h2⟩:=h.env s y hy
   exact ⟨h1,h2.ren (noEnv_find hcl.2.1 hy)⟩
 ·obtain ⟨m,o',h1,rfl,rfl,h4⟩:=key n o hn
  exact (h.hp.obj m o' h1).ren h4 (noHeap_find hcl.2.2 h1)
 ·obtain ⟨m,o1,h1,rfl,rfl,h4⟩:=key i o hi
  obtain ⟨m',o1',h1',rfl,rfl,h4'⟩:=key j o' hj
  obtain ⟨e1,_,_,e2⟩:=dup_all (g:=g) (p:=p) h4
  obtain ⟨e1',_,_,e2'⟩:=dup_all (g:=g) (p:=p) h4'
  rw [e1,e1'] at he
  have:=h.hp.inj m m' o1 o1' h1 h1' (fun h=>hni (e2.2 h)) (fun h=>hnj (e2'.2 h)) he
  rw [this]
 ·obtain ⟨m,o1,h1,rfl,rfl,h4⟩:=key n o hn
  obtain ⟨e1,_,_,e2⟩:=dup_all (g:=g) (p:=p) h4
  rw [e1] at hS
  exact h.hp.sep m o1 h1 (fun h=>hnil (e2.2 h)) hS
 ·obtain ⟨m,o1,h1,rfl,rfl,h4⟩:=key n o hn
  obtain ⟨e1,_,_,e2⟩:=dup_all (g:=g) (p:=p) h4
  rw [e1]
  exact h.fr.own m o1 h1 (fun h=>hnil (e2.2 h))
 ·refine (h.fr.par n o hn).trans (dup_agree fun e=>?_)
  rw [e,hcl.1] at hn;cases hn
theorem sealL_map (n:Nat) (xs:List V):∀cs:List V,V.sealL n xs cs=cs.map (V.shut n xs)
 | []=>rfl
 | x::r=>by simp [V.sealL,sealL_map n xs r]
theorem sealOKs_mem {n k m:Nat}:∀{cs:List V},V.sealOKs n k m cs→∀c∈cs,c.sealOK n k m
 | [],_,_,h=>by cases h
 | x::r,h,c,hc=>by
  simp only [V.sealOKs] at h
  rcases wO.1 hc with rfl|hc
  ·exact h.1
  ·exact sealOKs_mem h.2 c hc
theorem find_sealE (n s:Nat) (xs:List V):∀env:List (Nat×V),find s (sealE n xs env)=(find s env).map (V.shut n xs)
 | []=>rfl
 | (m,x)::r=>by
  simp only [sealE,find]
  cases Nat.beq s m with
  | true=>rfl
  | false=>exact find_sealE n s xs r
theorem sealEOK_find {n k m s:Nat} {x:V}:∀{env:List (Nat×V)},sealEOK n k m env→find s env=some x→x.sealOK n k m
 | (q,y)::r,h,hf=>by
  simp only [sealEOK] at h
  simp only [find] at hf
  cases hb:Nat.beq s q with
  | true=>rw [hb] at hf;cases hf;exact h.1
  | false=>rw [hb] at hf;exact sealEOK_find h.2 hf
theorem sealHOK_find {n k m s:Nat} {x:Obj'}:∀{H:Heap},sealHOK n k m H→find s H=some x→x.sealOK n k m
 | (q,y)::r,h,hf=>by
  simp only [sealHOK] at h
  simp only [find] at hf
  cases hb:Nat.beq s q with
  | true=>rw [hb] at hf;cases hf;exact h.1
  | false=>rw [hb] at hf;exact sealHOK_find h.2 hf
theorem find_sealH {n s:Nat} {xs:List V} {o:Obj'}:∀{H:Heap},find s (sealH n xs H)=some o→s≠n∧∃o',find s H=some o'∧o=o'.shut n xs
 | (m,x)::r,h=>by
  simp only [sealH] at h
  cases hb:Nat.beq n m with
  | true =>
   rw [hb] at h
   obtain ⟨h1,o',h2,h3⟩:=find_sealH (H:=r) h
   have e:=zR hb;subst e
   have hb':Nat.beq s n=false:=by
    cases hb:Nat.beq s n with
    | true=>exact absurd (zR hb) h1
    | false=>rfl
   exact ⟨h1,o',by simp only [find,hb',vB];exact h2,h3⟩
  | false =>
   rw [hb] at h
   simp only [vB,find] at h
   cases hs:Nat.beq s m with
   | true =>
    rw [hs] at h;cases h
    have e:=zR hs;subst e
    refine ⟨fun e=>?_,x,by simp [find],rfl⟩
    rw [e,wY] at hb;cases hb
   | false =>
    rw [hs] at h
    obtain ⟨h1,o',h2,h3⟩:=find_sealH (H:=r) h
    exact ⟨h1,o',by simp only [find,hs,vB];exact h2,h3⟩
def Gh.sealed (g:Gh) (n:Nat):Gh:={ g with S:=fun b=>g.S b∨(¬g.nil n∧b=g.ρ n) }
theorem sealed_agree (g:Gh) (n i:Nat):g.agree (g.sealed n) i:=⟨rfl,rfl,rfl,vE⟩
theorem VR.shut {n k:Nat} {xs:List V} {ty:Option TypeId} {v:Value} {x:V} (ho:OR g w n (.arr k xs ty)) (h:VR g w v x) (hok:x.sealOK n k xs.length):VR (g.sealed n) w v (x.shut n xs):=by
 have hk:Keep g.S w w:=fun _ _=>rfl
 have hs:∀b,g.S b→(g.sealed n).S b:=fun _ h=>.inl h
 have up:∀{v:Value} {x:V},VR g w v x→VR (g.sealed n) w v x:=fun h=>h.mono hk hs fun id _=>sealed_agree g n id
 induction h with
 | @rd v x h =>
  have:x.shut n xs=x:=by
   have flat:∀{y:V} {u:Value},Rd g.S w u y→y.shut n xs=y:=by
    intro y u hy
    induction hy with
    | agg vs cs hl hr ih =>
     simp only [V.shut,sealL_map,V.agg.injEq]
     refine xP fun i=>?_
     rw [xN]
     cases hc:cs[i]? with
     | none=>rfl
     | some c=>simp [ih i c hc]
    | _=>rfl
   exact flat h
  rw [this];exact .rd (h.mono hk hs)
 | any v=>exact .any v
 | ptr id off =>
  simp only [V.shut]
  cases Nat.beq n id with
  | true=>exact .any _
  | false=>exact up (.ptr id off)
 | eptr b o off cur e fz x hS hg hb hr=>exact up (.eptr b o off cur e fz x hS hg hb hr)
 | oslnil id k' lo h =>
  simp only [V.shut]
  cases hb:Nat.beq n id with
  | true =>
   have e:=zR hb;subst e
   simp only [vD,List.take_zero];exact .rd .nilsl
  | false=>exact up (.oslnil id k' lo h)
 | osl id k' lo len o c h hoo hc hl hm =>
  simp only [V.shut]
  cases hb:Nat.beq n id with
  | false=>exact up (.osl id k' lo len o c h hoo hc hl hm)
  | true =>
   have e:=zR hb;subst e
   simp only [V.sealOK,hb,vD] at hok ⊢
   cases hkb:Nat.beq k k' with
   | false=>rw [hkb] at hok;exact hok.elim
   | true =>
    have e:=zR hkb;subst e
    rw [hkb] at hok;simp only [vD] at hok
    rcases ho with ⟨hn,_⟩|⟨hn,hkp,⟨cur,e,fz,h1,h2,h3,h4⟩,h5,h6,h7⟩
    ·exact absurd hn h
    ·have hlen:((xs.drop lo).take len).length=len:=by simp;omega
     refine .rd (.sl _ o len c k cur e fz _ (.inr ⟨h,rfl⟩) h1 hlen (wW hl hm) hl ?_ (fun x hx=>?_) fun i j x cx hi hj=>?_)
     ·rcases hoo with h0|h0
      ·exact .inl (by omega)
      ·refine .inr ?_
       rw [h0,h2,←vA]
       exact zX k (by omega)
     ·obtain ⟨a1,a2,a3⟩:=h7 x (zY (List.mem_of_mem_take hx))
      exact ⟨a1,a2,a3⟩
     ·have hil:i<len:=by
       have:=(zG.1 hi).1
       omega
      rw [xG,if_pos hil,xH] at hi
      have hoo':o=(g.base n+lo)*k:=hoo.resolve_left (by omega)
      have:=(h4 (lo+i) j x cx hi hj).mono hk hs
      have e1:o+i*k+j=(g.base n+(lo+i))*k+j:=by
       rw [hoo',←wN,vA (g.base n+lo) i k]
      rw [e1];exact this
 | optr id k' i off =>
  simp only [V.shut]
  cases Nat.beq n id with
  | true=>exact .any _
  | false=>exact up (.optr id k' i off)
 | omap id =>
  simp only [V.shut]
  cases Nat.beq n id with
  | true=>exact .any _
  | false=>exact up (.omap id)
 | bnil id =>
  simp only [V.shut]
  cases Nat.beq n id with
  | true=>exact .any _
  | false=>exact up (.bnil id)
 | bself id =>
  simp only [V.shut]
  cases Nat.beq n id with
  | true=>exact .any _
  | false=>exact up (.bself id)
 | at_ id b v h=>exact .at_ id b v h
 | nsl z k xs v h=>exact up (.nsl z k xs v h)
 | nsmap b z k kd ents clock es hr hS hg hn=>exact up (.nsmap b z k kd ents clock es hr hS hg hn)
 | agg vs cs hl hr ih =>
  simp only [V.shut,sealL_map]
  simp only [V.sealOK] at hok
  refine .agg vs _ (by simpa using hl) fun i c hc=>?_
  rw [xN] at hc
  cases hx:cs[i]? with
  | none=>rw [hx] at hc;cases hc
  | some y=>rw [hx] at hc;cases hc;exact ih i y hx (sealOKs_mem hok y (zZ hx))
 | tup vs cs hl hr ih =>
  simp only [V.shut,sealL_map]
  simp only [V.sealOK] at hok
  refine .tup vs _ (by simpa using hl) fun i c hc=>?_
  rw [xN] at hc
  cases hx:cs[i]? with
  | none=>rw [hx] at hc;cases hc
  | some y=>rw [hx] at hc;cases hc;exact ih i y hx (sealOKs_mem hok y (zZ hx))
 | fn f vs cs hl hr ih =>
  simp only [V.shut,sealL_map]
  simp only [V.sealOK] at hok
  refine .fn f vs _ (by simpa using hl) fun i c hc=>?_
  rw [xN] at hc
  cases hx:cs[i]? with
  | none=>rw [hx] at hc;cases hc
  | some y=>rw [hx] at hc;cases hc;exact ih i y hx (sealOKs_mem hok y (zZ hx))
 | bnd f vs cs hl hr ih =>
  simp only [V.shut,sealL_map]
  simp only [V.sealOK] at hok
  refine .bnd f vs _ (by simpa using hl) fun i c hc=>?_
  rw [xN] at hc
  cases hx:cs[i]? with
  | none=>rw [hx] at hc;cases hc
  | some y=>rw [hx] at hc;cases hc;exact ih i y hx (sealOKs_mem hok y (zZ hx))
theorem OR.shut {n k m:Nat} {xs:List V} {ty:Option TypeId} {o:Obj'} (ho:OR g w n (.arr k xs ty)) (h:OR g w m o) (hok:o.sealOK n k xs.length):OR (g.sealed n) w m (o.shut n xs):=by
 have hk:Keep g.S w w:=fun _ _=>rfl
 have hs:∀b,g.S b→(g.sealed n).S b:=fun _ h=>.inl h
 cases o with
 | cells cs ty =>
  obtain ⟨hnil,cur,e,fz,k1,k2,k3,k4⟩:=h
  simp only [Obj'.sealOK] at hok
  refine ⟨hnil,cur,e,fz,k1,by rw [sealL_map];simpa using k2,k3,fun i c hc=>?_⟩
  rw [sealL_map,xN] at hc
  cases hx:cs[i]? with
  | none=>rw [hx] at hc;cases hc
  | some y=>rw [hx] at hc;cases hc;exact (k4 i y hx).shut ho (sealOKs_mem hok y (zZ hx))
 | arr k' ys _=>exact h.mono hk hs (sealed_agree g n m) (fun _=>rfl) (fun i _=>sealed_agree g n i) (w9 _)
 | map kd es=>exact h.mono hk hs (sealed_agree g n m) (fun _=>rfl) (fun i _=>sealed_agree g n i) (w9 _)
 | iter rem cur=>exact h.mono hk hs (sealed_agree g n m) (fun _=>rfl) (fun i _=>sealed_agree g n i) (w9 _)
 | mark=>exact h.mono hk hs (sealed_agree g n m) (fun _=>rfl) (fun i _=>sealed_agree g n i) (w9 _)
 | nmap z k' kd es=>exact h.mono hk hs (sealed_agree g n m) (fun _=>rfl) (fun i _=>sealed_agree g n i) (w9 _)
theorem Rel.shut {n k:Nat} {xs:List V} {ty:Option TypeId} (h:Rel P c g σ a w) (hf:find n σ.heap=some (.arr k xs ty)) (he:sealEOK n k xs.length σ.env) (hh:sealHOK n k xs.length σ.heap) :
  Rel P c (g.sealed n) ⟨sealE n xs σ.env,sealH n xs σ.heap⟩ a w:=by
 have ho:=h.hp.obj n _ hf
 refine ⟨h.size,h.dfr,fun s x hx=>?_,⟨fun m o hm=>?_,fun i j o o' hi hj hni hnj heq=>?_,fun m o hm hnil hS=>?_,fun b hb=>?_,fun w2 hw2=>h.hp.tabs w2 fun b hb=>hw2 b (.inl hb)⟩,⟨h.fr.os,h.fr.tape,h.fr.output,h.fr.size,h.fr.old,fun m o hm hnil=>?_,fun b hb=>.inl (h.fr.sup b hb),fun b hb=>?_,fun m o hm=>(h.fr.par m o hm).trans (sealed_agree g n m)⟩⟩
 ·rw [find_sealE] at hx
  cases hy:find s σ.env with
  | none=>rw [hy] at hx;cases hx
  | some y =>
   rw [hy] at hx;cases hx
   obtain ⟨h1,h2⟩:=h.env s y hy
   exact ⟨h1,h2.shut ho (sealEOK_find he hy)⟩
 ·obtain ⟨_,o',h2,rfl⟩:=find_sealH hm
  exact OR.shut ho (h.hp.obj m o' h2) (sealHOK_find hh h2)
 ·obtain ⟨_,o1,h1,rfl⟩:=find_sealH hi
  obtain ⟨_,o2,h2,rfl⟩:=find_sealH hj
  exact h.hp.inj i j o1 o2 h1 h2 hni hnj heq
 ·obtain ⟨hne,o1,h1,rfl⟩:=find_sealH hm
  rcases hS with hS|⟨hS1,hS2⟩
  ·exact h.hp.sep m o1 h1 hnil hS
  ·exact hne (h.hp.inj m n o1 _ h1 hf hnil hS1 hS2)
 ·rcases hb with hb|⟨h1,rfl⟩
  ·exact h.hp.lt b hb
  ·exact ho.block h1
 ·obtain ⟨_,o1,h1,rfl⟩:=find_sealH hm
  exact h.fr.own m o1 h1 hnil
 ·rcases hb with hb|⟨h1,rfl⟩
  ·exact h.fr.sub b hb
  ·exact ⟨.inr (h.fr.own n _ hf h1).1,(h.fr.own n _ hf h1).2⟩
theorem shmL_map (n:Nat) (y:V):∀cs:List V,V.shmL n y cs=cs.map (V.shm n y)
 | []=>rfl
 | x::r=>by simp [V.shmL,shmL_map n y r]
theorem find_shmE (n s:Nat) (y:V):∀env:List (Nat×V),find s (shmE n y env)=(find s env).map (V.shm n y)
 | []=>rfl
 | (m,x)::r=>by
  simp only [shmE,find]
  cases Nat.beq s m with
  | true=>rfl
  | false=>exact find_shmE n s y r
theorem find_shmH {n s:Nat} {y:V} {o:Obj'}:∀{H:Heap},find s (shmH n y H)=some o→s≠n∧∃o',find s H=some o'∧o=o'.shm n y
 | (m,x)::r,h=>by
  simp only [shmH] at h
  cases hb:Nat.beq n m with
  | true =>
   rw [hb] at h
   obtain ⟨h1,o',h2,h3⟩:=find_shmH (H:=r) h
   have e:=zR hb;subst e
   have hb':Nat.beq s n=false:=by
    cases hb:Nat.beq s n with
    | true=>exact absurd (zR hb) h1
    | false=>rfl
   exact ⟨h1,o',by simp only [find,hb',vB];exact h2,h3⟩
  | false =>
   rw [hb] at h
   simp only [vB,find] at h
   cases hs:Nat.beq s m with
   | true =>
    rw [hs] at h;cases h
    have e:=zR hs;subst e
    refine ⟨fun e=>?_,x,by simp [find],rfl⟩
    rw [e,wY] at hb;cases hb
   | false =>
    rw [hs] at h
    obtain ⟨h1,o',h2,h3⟩:=find_shmH (H:=r) h
    exact ⟨h1,o',by simp only [find,hs,vB];exact h2,h3⟩
theorem map_sealed {n:Nat} {kd:KD} {es:List (V×V)} (ho:OR g w n (.map kd es)):Rd (g.sealed n).S w (.map (some (g.ρ n))) (.smap kd es):=by
 have hk:Keep g.S w w:=fun _ _=>rfl
 have hs:∀b,g.S b→(g.sealed n).S b:=fun _ h=>.inl h
 obtain ⟨hn,ents,clock,h1,he,h3,h4⟩:=ho
 refine (.smap _ kd ents clock es (.inr ⟨hn,rfl⟩) h1 (by simpa using he.len) he.key h3 h4 (fun i ent kv hi hj=>?_) fun i ent kv hi hj=>?_)
 ·exact (he.rd i ent kv (by simpa using hi) hj).1.mono hk hs
 ·exact (he.rd i ent kv (by simpa using hi) hj).2.mono hk hs
theorem nmap_sealed {n z k:Nat} {kd:KD} {es:List (V×V)} (ho:OR g w n (.nmap z k kd es)):VR (g.sealed n) w (.map (some (g.ρ n))) (.nsmap z k kd es):=by
 have hk:Keep g.S w w:=fun _ _=>rfl
 have hs:∀b,g.S b→(g.sealed n).S b:=fun _ h=>.inl h
 obtain ⟨hn,ents,clock,h1,he,h3,h4,h5,_⟩:=ho
 have hrd:=map_sealed (g:=g) (w:=w) (n:=n) ⟨hn,ents,clock,h1,he,h3,h4⟩
 refine .nsmap _ z k kd ents clock es hrd (.inr ⟨hn,rfl⟩) h1 fun i ent kv hi hj=>?_
 obtain ⟨xs,e1,e2⟩:=h5 i ent kv hi hj
 exact ⟨xs,e1,e2.mono hk hs⟩
theorem VR.shm {n:Nat} {y:V} {v:Value} {x:V} (ho:VR (g.sealed n) w (.map (some (g.ρ n))) y) (h:VR g w v x):VR (g.sealed n) w v (V.shm n y x):=by
 have hk:Keep g.S w w:=fun _ _=>rfl
 have hs:∀b,g.S b→(g.sealed n).S b:=fun _ h=>.inl h
 have up:∀{v:Value} {x:V},VR g w v x→VR (g.sealed n) w v x:=fun h=>h.mono hk hs fun id _=>sealed_agree g n id
 induction h with
 | @rd v x h =>
  have:V.shm n y x=x:=by
   have flat:∀{u:V} {v:Value},Rd g.S w v u→V.shm n y u=u:=by
    intro u v hy
    induction hy with
    | agg vs cs hl hr ih =>
     simp only [V.shm,shmL_map,V.agg.injEq]
     refine xP fun i=>?_
     rw [xN]
     cases hc:cs[i]? with
     | none=>rfl
     | some c=>simp [ih i c hc]
    | _=>rfl
   exact flat h
  rw [this];exact .rd (h.mono hk hs)
 | any v=>exact .any v
 | ptr id off=>exact up (.ptr id off)
 | eptr b o off cur e fz x hS hg hb hr=>exact up (.eptr b o off cur e fz x hS hg hb hr)
 | oslnil id k' lo h=>exact up (.oslnil id k' lo h)
 | osl id k' lo len o c h hoo hc hl hm=>exact up (.osl id k' lo len o c h hoo hc hl hm)
 | optr id k' i off=>exact up (.optr id k' i off)
 | bnil id=>exact up (.bnil id)
 | bself id=>exact up (.bself id)
 | omap id =>
  simp only [V.shm]
  cases hb:Nat.beq n id with
  | false=>exact up (.omap id)
  | true =>
   have e:=zR hb;subst e
   simpa using ho
 | at_ id b v h=>exact .at_ id b v h
 | nsl z k xs v h=>exact up (.nsl z k xs v h)
 | nsmap b z k kd ents clock es hr hS hg hn=>exact up (.nsmap b z k kd ents clock es hr hS hg hn)
 | agg vs cs hl hr ih =>
  simp only [V.shm,shmL_map]
  refine .agg vs _ (by simpa using hl) fun i c hc=>?_
  rw [xN] at hc
  cases hx:cs[i]? with
  | none=>rw [hx] at hc;cases hc
  | some u=>rw [hx] at hc;cases hc;exact ih i u hx
 | tup vs cs hl hr ih =>
  simp only [V.shm,shmL_map]
  refine .tup vs _ (by simpa using hl) fun i c hc=>?_
  rw [xN] at hc
  cases hx:cs[i]? with
  | none=>rw [hx] at hc;cases hc
  | some u=>rw [hx] at hc;cases hc;exact ih i u hx
 | fn f vs cs hl hr ih =>
  simp only [V.shm,shmL_map]
  refine .fn f vs _ (by simpa using hl) fun i c hc=>?_
  rw [xN] at hc
  cases hx:cs[i]? with
  | none=>rw [hx] at hc;cases hc
  | some u=>rw [hx] at hc;cases hc;exact ih i u hx
 | bnd f vs cs hl hr ih =>
  simp only [V.shm,shmL_map]
  refine .bnd f vs _ (by simpa using hl) fun i c hc=>?_
  rw [xN] at hc
  cases hx:cs[i]? with
  | none=>rw [hx] at hc;cases hc
  | some u=>rw [hx] at hc;cases hc;exact ih i u hx
theorem OR.shm {n m:Nat} {y:V} {o:Obj'} (ho:VR (g.sealed n) w (.map (some (g.ρ n))) y) (h:OR g w m o):OR (g.sealed n) w m (o.shm n y):=by
 have hk:Keep g.S w w:=fun _ _=>rfl
 have hs:∀b,g.S b→(g.sealed n).S b:=fun _ h=>.inl h
 cases o with
 | cells cs ty =>
  obtain ⟨hnil,cur,e,fz,k1,k2,k3,k4⟩:=h
  refine ⟨hnil,cur,e,fz,k1,by rw [shmL_map];simpa using k2,k3,fun i c hc=>?_⟩
  rw [shmL_map,xN] at hc
  cases hx:cs[i]? with
  | none=>rw [hx] at hc;cases hc
  | some u=>rw [hx] at hc;cases hc;exact VR.shm ho (k4 i u hx)
 | arr k' ys _=>exact h.mono hk hs (sealed_agree g n m) (fun _=>rfl) (fun i _=>sealed_agree g n i) (w9 _)
 | map kd es=>exact h.mono hk hs (sealed_agree g n m) (fun _=>rfl) (fun i _=>sealed_agree g n i) (w9 _)
 | iter rem cur=>exact h.mono hk hs (sealed_agree g n m) (fun _=>rfl) (fun i _=>sealed_agree g n i) (w9 _)
 | mark=>exact h.mono hk hs (sealed_agree g n m) (fun _=>rfl) (fun i _=>sealed_agree g n i) (w9 _)
 | nmap z k' kd es=>exact h.mono hk hs (sealed_agree g n m) (fun _=>rfl) (fun i _=>sealed_agree g n i) (w9 _)
theorem Rel.shm {n:Nat} {y:V} {on:Obj'} (h:Rel P c g σ a w) (hf:find n σ.heap=some on) (ho:VR (g.sealed n) w (.map (some (g.ρ n))) y) :
  Rel P c (g.sealed n) ⟨shmE n y σ.env,shmH n y σ.heap⟩ a w:=by
 refine ⟨h.size,h.dfr,fun s x hx=>?_,⟨fun m o hm=>?_,fun i j o o' hi hj hni hnj heq=>?_,fun m o hm hnil hS=>?_,fun b hb=>?_,fun w2 hw2=>h.hp.tabs w2 fun b hb=>hw2 b (.inl hb)⟩,⟨h.fr.os,h.fr.tape,h.fr.output,h.fr.size,h.fr.old,fun m o hm hnil=>?_,fun b hb=>.inl (h.fr.sup b hb),fun b hb=>?_,h.fr.par⟩⟩
 ·rw [find_shmE] at hx
  cases hy:find s σ.env with
  | none=>rw [hy] at hx;cases hx
  | some u =>
   rw [hy] at hx;cases hx
   obtain ⟨h1,h2⟩:=h.env s u hy
   exact ⟨h1,VR.shm ho h2⟩
 ·obtain ⟨_,o',h2,rfl⟩:=find_shmH hm
  exact OR.shm ho (h.hp.obj m o' h2)
 ·obtain ⟨_,o1,h1,rfl⟩:=find_shmH hi
  obtain ⟨_,o2,h2,rfl⟩:=find_shmH hj
  exact h.hp.inj i j o1 o2 h1 h2 hni hnj heq
 ·obtain ⟨hne,o1,h1,rfl⟩:=find_shmH hm
  rcases hS with hS|⟨hS1,hS2⟩
  ·exact h.hp.sep m o1 h1 hnil hS
  ·exact hne (h.hp.inj m n o1 _ h1 hf hnil hS1 hS2)
 ·rcases hb with hb|⟨h1,rfl⟩
  ·exact h.hp.lt b hb
  ·exact (h.hp.obj n _ hf).block h1
 ·obtain ⟨_,o1,h1,rfl⟩:=find_shmH hm
  exact h.fr.own m o1 h1 hnil
 ·rcases hb with hb|⟨h1,rfl⟩
  ·exact h.fr.sub b hb
  ·exact ⟨.inr (h.fr.own n _ hf h1).1,(h.fr.own n _ hf h1).2⟩
theorem unnilL_map:∀cs:List V,V.unnilL cs=cs.map V.unnil
 | []=>rfl
 | x::r=>by simp [V.unnilL,unnilL_map r]
theorem VR.unnil {v:Value} {x:V} (h:VR g w v x):VR g w v x.unnil:=by
 have rd:∀{v:Value} {x:V},Rd g.S w v x→Rd g.S w v x.unnil:=by
  intro v x h
  induction h with
  | nils=>exact .nilsl
  | agg vs cs hl hr ih =>
   simp only [V.unnil,unnilL_map]
   refine .agg vs _ (by simpa using hl) fun i c hc=>?_
   rw [xN] at hc
   cases hx:cs[i]? with
   | none=>rw [hx] at hc;cases hc
   | some y=>rw [hx] at hc;cases hc;exact ih i y hx
  | bool b=>exact .bool b
  | int k n h=>exact .int k n h
  | str s h=>exact .str s h
  | nilsl=>exact .nilsl
  | slz a cap=>exact .slz a cap
  | nilp=>exact .nilp
  | nilm=>exact .nilm
  | nilf=>exact .nilf
  | nili=>exact .nili
  | ifcn=>exact .ifcn
  | ifcs t p=>exact .ifcs t p
  | adr b off=>exact .adr b off
  | fnc n=>exact .fnc n
  | sl g' o len cap k cur e fz xs h1 h2 h3 h4 h5 h6 h7 h8 _=>exact .sl g' o len cap k cur e fz xs h1 h2 h3 h4 h5 h6 h7 h8
  | smap b kd ents clock es h1 h2 h3 h4 h5 h6 h7 h8 _ _=>exact .smap b kd ents clock es h1 h2 h3 h4 h5 h6 h7 h8
 induction h with
 | rd h=>exact .rd (rd h)
 | agg vs cs hl hr ih =>
  simp only [V.unnil,unnilL_map]
  refine .agg vs _ (by simpa using hl) fun i c hc=>?_
  rw [xN] at hc
  cases hx:cs[i]? with
  | none=>rw [hx] at hc;cases hc
  | some y=>rw [hx] at hc;cases hc;exact ih i y hx
 | at_ id b v h=>exact .at_ id b v h
 | any v=>exact .any v
 | ptr id off=>exact .ptr id off
 | eptr b o off cur e fz x hS hg hb hr=>exact .eptr b o off cur e fz x hS hg hb hr
 | oslnil id k lo h=>exact .oslnil id k lo h
 | osl id k lo len o c h1 h2 h3 h4 h5=>exact .osl id k lo len o c h1 h2 h3 h4 h5
 | optr id k i off=>exact .optr id k i off
 | omap id=>exact .omap id
 | bnil id=>exact .bnil id
 | bself id=>exact .bself id
 | nsl z k xs v h=>exact .nsl z k xs v h
 | nsmap b z k kd ents clock es hr hS hg hn=>exact .nsmap b z k kd ents clock es hr hS hg hn
 | tup vs cs hl hr _=>exact .tup vs cs hl hr
 | fn f vs cs hl hr _=>exact .fn f vs cs hl hr
 | bnd f vs cs hl hr _=>exact .bnd f vs cs hl hr
theorem Rel.accC {id off id2 k:Nat} {ty:Option TypeId} {cs:List V} {t:Option TypeId} (h:Rel P c g σ a w) (hf:find id σ.heap=some (.cells cs t)) (hn:cs[off]?=some .nils) (hcl:Clean c σ id2) (hne:id≠id2) :
  Rel P c (g.setNil id2) ⟨σ.env,Go.Ab.put id (.cells (cs.set off (.osl id2 k 0 0)) t) (Go.Ab.put id2 (.arr k [] ty) σ.heap)⟩ a w:=by
 have hk:Keep g.S w w:=fun _ _=>rfl
 have hag:∀i,i≠id2→g.agree (g.setNil id2) i:=fun i hi=>Gh.setNil_agree hi
 have hO:=h.hp.obj id _ hf
 have hO2:OR (g.setNil id2) w id (.cells cs t):=hO.mono hk (fun _ h=>h) (hag id hne) (fun _=>rfl) (fun n hn'=>hag n fun e=>by
  rw [e,noHeap_find hcl.2.2 hf] at hn';cases hn') (w9 _)
 have hnil:¬(g.setNil id2).nil id:=hO2.1
 have hst:StepOK g σ.heap w ⟨.any,[],[(id2,.arr k [] ty),(id,.cells (cs.set off (.osl id2 k 0 0)) t)]⟩ (g.setNil id2) w:=by
  refine ⟨rfl,rfl,rfl,w9 _,fun _ _ _=>rfl,fun _ h=>h,fun b hb=>.inl hb,h.hp.lt,fun i hi=>hag i fun e=>hi (.arr k [] ty) (by simp [e]),?_,?_,?_,?_⟩
  ·intro i o ho
   simp at ho
   rcases ho with ⟨rfl,rfl⟩|⟨rfl,rfl⟩
   ·exact .inl ⟨.inl rfl,rfl⟩
   ·obtain ⟨h1,cur,e,fz,h2,h3,h4,h5⟩:=hO2
    refine ⟨h1,cur,e,fz,h2,by simpa using h3,h4,fun j x hj=>?_⟩
    rw [xM] at hj
    by_cases e1:off=j
    ·subst e1
     have hlt:off<cs.length:=(zG.1 hn).1
     simp [hlt] at hj;subst hj
     have:=h5 off _ hn
     rw [this.nils_inv];exact .oslnil id2 k 0 (.inl rfl)
    ·rw [if_neg e1] at hj;exact h5 j x hj
  ·intro i o ho hni
   simp at ho
   rcases ho with ⟨rfl,rfl⟩|⟨rfl,rfl⟩
   ·exact absurd (.inl rfl) hni
   ·obtain ⟨e1,_,_,e4⟩:=hag i hne
    exact .inr ⟨i,_,by simp [Eff.ids],hf,fun h=>hni (e4.2 h),e1.symm⟩
  ·intro i j o o' hi hj hni hnj _
   simp at hi hj
   rcases hi with ⟨rfl,rfl⟩|⟨rfl,rfl⟩
   ·exact absurd (.inl rfl) hni
   ·rcases hj with ⟨rfl,rfl⟩|⟨rfl,rfl⟩
    ·exact absurd (.inl rfl) hnj
    ·rfl
  ·intro i o ho hni hS
   simp at ho
   rcases ho with ⟨rfl,rfl⟩|⟨rfl,rfl⟩
   ·exact hni (.inl rfl)
   ·obtain ⟨e1,_,_,e4⟩:=hag i hne
    rw [e1] at hS
    exact h.hp.sep i _ hf (fun h=>hni (e4.2 h)) hS
 have hfr:Fresh c.H0 g (g.setNil id2) σ ⟨.any,[],[(id2,.arr k [] ty),(id,.cells (cs.set off (.osl id2 k 0 0)) t)]⟩:=by
  intro i o ho
  simp at ho
  rcases ho with ⟨rfl,rfl⟩|⟨rfl,rfl⟩
  ·exact .inr ⟨hcl.1,fun s x hx=>noEnv_find hcl.2.1 hx,fun n o' hn' _=>noHeap_find hcl.2.2 hn'⟩
  ·exact .inl (hag i hne)
 exact h.step (d:=none) (v:=undef) (fun n hn=>by cases hn) hst hfr (.any _)
theorem shqs_sound:∀{l:List Nat} {K:St→Prop} {g:Gh} {σ:St},shqs l σ K→Rel P c g σ a w→∃g' σ',K σ'∧Rel P c g' σ' a w
 | [],K,g,σ,h,hR=>⟨g,σ,h,hR⟩
 | id::r,K,g,σ,h,hR=>by
  simp only [shqs,shq1] at h
  split at h
  ·rename_i k xs ty hf
   exact shqs_sound h.2.2 (hR.shut hf h.1 h.2.1)
  ·rename_i kd es hf
   exact shqs_sound h (hR.shm hf (.rd (map_sealed (hR.hp.obj _ _ hf))))
  ·rename_i z k kd es hf
   exact shqs_sound h (hR.shm hf (nmap_sealed (hR.hp.obj _ _ hf)))
  ·exact shqs_sound h hR
  ·exact h.elim
theorem Rel.putv {s:Nat} {x y:V} (hR:Rel P c g σ a w) (hx:find s σ.env=some x) (hv:VR g w (a.tmps.getD s undef) y):Rel P c g ⟨Go.Ab.put s y σ.env,σ.heap⟩ a w:=by
 refine ⟨hR.size,hR.dfr,fun n z hn=>?_,hR.hp,hR.fr⟩
 rw [find_put] at hn
 split at hn
 ·rename_i e;cases hn;rw [e];exact ⟨(hR.env s _ hx).1,hv⟩
 ·exact hR.env n z hn
theorem VR.at_inv {v:Value} {id b:Nat} (h:VR g w v (.at_ id b)):g.ρ id=b:=by
 cases h with
 | rd h=>cases h
 | at_ _ _ _ h=>exact h
theorem VR.adr_inv {v:Value} {b off:Nat} (h:VR g w v (.adr b off)):v=.pointer (some ⟨b,off,none⟩):=by
 cases h with|rd h=>cases h;rfl
theorem Rel.nl {s:Nat} {x:V} (hR:Rel P c g σ a w) (hx:find s σ.env=some x):Rel P c g ⟨Go.Ab.put s x.unnil σ.env,σ.heap⟩ a w:=by
 refine ⟨hR.size,hR.dfr,fun t y hy=>?_,hR.hp,hR.fr⟩
 simp only [find_put] at hy
 obtain ⟨h1,h2⟩:=hR.env s x hx
 by_cases e:t=s
 ·subst e;simp at hy;subst hy;exact ⟨h1,h2.unnil⟩
 ·simp only [e,if_false] at hy;exact hR.env t y hy
def Gh.trim (g:Gh) (n lo:Nat):Gh:={ g with base:=fun i=>if i=n then g.base i+lo else g.base i,cap:=fun i=>if i=n then g.cap i - lo else g.cap i }
theorem trim_agree {g:Gh} {n lo i:Nat} (h:i≠n):g.agree (g.trim n lo) i:=by simp [Gh.agree,Gh.trim,h]
theorem trL_map (n lo len:Nat):∀cs:List V,V.trL n lo len cs=cs.map (V.tr n lo len)
 | []=>rfl
 | x::r=>by simp [V.trL,trL_map n lo len r]
theorem find_trE (n lo len s:Nat):∀env:List (Nat×V),find s (trE n lo len env)=(find s env).map (V.tr n lo len)
 | []=>rfl
 | (m,x)::r=>by
  simp only [trE,find]
  cases Nat.beq s m with
  | true=>rfl
  | false=>exact find_trE n lo len s r
theorem find_trH (n lo len s:Nat):∀H:Heap,find s (trH n lo len H)=(find s H).map (Obj'.tr n lo len)
 | []=>rfl
 | (m,x)::r=>by
  simp only [trH,find]
  cases Nat.beq s m with
  | true=>rfl
  | false=>exact find_trH n lo len s r
theorem nbeq {n m:Nat} (h:n≠m):Nat.beq n m=false:=by
 cases hb:Nat.beq n m with
 | true=>exact absurd (zR hb) h
 | false=>rfl
theorem Rd.tr {S:Nat→Prop} {v:Value} {x:V} {n lo len:Nat} (h:Rd S w v x):x.tr n lo len=x:=by
 induction h with
 | agg vs cs hl hr ih =>
  simp only [V.tr,trL_map,V.agg.injEq]
  refine xP fun i=>?_
  rw [xN]
  cases hc:cs[i]? with
  | none=>rfl
  | some c=>simp [ih i c hc]
 | _=>rfl
theorem VR.tr {n lo len:Nat} {v:Value} {x:V} (h:VR g w v x):VR (g.trim n lo) w v (x.tr n lo len):=by
 induction h with
 | rd h=>rw [h.tr];exact .rd h
 | any v=>exact .any v
 | ptr id off =>
  simp only [V.tr]
  by_cases e:id=n
  ·subst e;simp only [wY,vD];exact .any _
  ·simp only [nbeq e,vB];exact .ptr (g:=g.trim n lo) id off
 | eptr b o off cur e fz x hS hg hb hr=>exact .eptr b o off cur e fz x hS hg hb hr
 | oslnil id k l h =>
  simp only [V.tr]
  by_cases e:id=n
  ·subst e
   simp only [wY,vD]
   cases Nat.beq l lo&&Nat.beq 0 len with
   | true=>exact .oslnil (g:=g.trim id lo) id k 0 h
   | false=>exact .any _
  ·simp only [nbeq e,vB];exact .oslnil (g:=g.trim n lo) id k l h
 | osl id k l m o cc h1 h2 h3 h4 h5 =>
  simp only [V.tr]
  by_cases e:id=n
  ·subst e
   simp only [wY,vD]
   cases hb:Nat.beq l lo&&Nat.beq m len with
   | true =>
    simp only [x4] at hb
    have:=zR hb.1;subst this
    exact .osl (g:=g.trim id l) id k 0 m o cc h1 (by simpa [Gh.trim] using h2) (by simp [Gh.trim];omega) h4 h5
   | false=>exact .any _
  ·simp only [nbeq e,vB]
   exact .osl (g:=g.trim n lo) id k l m o cc h1 (by simpa [Gh.trim,e] using h2) (by simpa [Gh.trim,e] using h3) h4 h5
 | optr id k i off =>
  simp only [V.tr]
  by_cases e:id=n
  ·subst e;simp only [wY,vD];exact .any _
  ·simp only [nbeq e,vB]
   have:=VR.optr (g:=g.trim n lo) (w:=w) id k i off
   simpa [Gh.trim,e] using this
 | omap id =>
  simp only [V.tr]
  by_cases e:id=n
  ·subst e;simp only [wY,vD];exact .any _
  ·simp only [nbeq e,vB];exact .omap (g:=g.trim n lo) id
 | bnil id =>
  simp only [V.tr]
  by_cases e:id=n
  ·subst e;simp only [wY,vD];exact .any _
  ·simp only [nbeq e,vB];exact .bnil id
 | bself id =>
  simp only [V.tr]
  by_cases e:id=n
  ·subst e;simp only [wY,vD];exact .any _
  ·simp only [nbeq e,vB];exact .bself (g:=g.trim n lo) id
 | at_ id b v h=>exact .at_ id b v h
 | nsl z k xs v h =>
  simp only [V.tr]
  by_cases e:z=n
  ·subst e;simp only [wY,vD];exact .any _
  ·simp only [nbeq e,vB]
   have:(g.trim n lo).base z=g.base z:=by simp [Gh.trim,e]
   exact .nsl z k xs v (by rw [this];exact h)
 | nsmap b z k kd ents clock es hr hS hg hn =>
  simp only [V.tr]
  by_cases e:z=n
  ·subst e;simp only [wY,vD];exact .any _
  ·simp only [nbeq e,vB]
   have:(g.trim n lo).base z=g.base z:=by simp [Gh.trim,e]
   exact .nsmap b z k kd ents clock es hr hS hg fun i ent kv a1 a2=>by rw [this];exact hn i ent kv a1 a2
 | agg vs cs hl hr ih =>
  simp only [V.tr,trL_map]
  refine .agg vs _ (by simpa using hl) fun i c hc=>?_
  rw [xN] at hc
  cases hx:cs[i]? with
  | none=>rw [hx] at hc;cases hc
  | some y=>rw [hx] at hc;cases hc;exact ih i y hx
 | tup vs cs hl hr ih =>
  simp only [V.tr,trL_map]
  refine .tup vs _ (by simpa using hl) fun i c hc=>?_
  rw [xN] at hc
  cases hx:cs[i]? with
  | none=>rw [hx] at hc;cases hc
  | some y=>rw [hx] at hc;cases hc;exact ih i y hx
 | fn f vs cs hl hr ih =>
  simp only [V.tr,trL_map]
  refine .fn f vs _ (by simpa using hl) fun i c hc=>?_
  rw [xN] at hc
  cases hx:cs[i]? with
  | none=>rw [hx] at hc;cases hc
  | some y=>rw [hx] at hc;cases hc;exact ih i y hx
 | bnd f vs cs hl hr ih =>
  simp only [V.tr,trL_map]
  refine .bnd f vs _ (by simpa using hl) fun i c hc=>?_
  rw [xN] at hc
  cases hx:cs[i]? with
  | none=>rw [hx] at hc;cases hc
  | some y=>rw [hx] at hc;cases hc;exact ih i y hx
theorem OR.tr {n lo len m:Nat} {o:Obj'} (h:OR g w m o) (hm:m≠n):OR (g.trim n lo) w m (o.tr n lo len):=by
 cases o with
 | cells cs t =>
  obtain ⟨h1,cur,e,fz,h2,h3,h4,h5⟩:=h
  refine ⟨h1,cur,e,fz,h2,by rw [trL_map];simpa using h3,h4,fun i x hx=>?_⟩
  rw [trL_map,xN] at hx
  cases hy:cs[i]? with
  | none=>rw [hy] at hx;cases hx
  | some y=>rw [hy] at hx;cases hx;exact (h5 i y hy).tr
 | arr k xs t =>
  rcases h with ⟨h1,h2⟩|⟨h1,h2⟩
  ·exact .inl ⟨h1,h2⟩
  ·refine .inr ⟨h1,?_⟩
   have e1:(g.trim n lo).base m=g.base m:=by simp [Gh.trim,hm]
   have e2:(g.trim n lo).cap m=g.cap m:=by simp [Gh.trim,hm]
   rw [e1,e2];exact h2
 | map kd es=>exact h
 | iter rem cur=>exact h
 | mark =>
  have e1:(g.trim n lo).base m=g.base m:=by simp [Gh.trim,hm]
  exact ⟨h.1,fun b hb=>h.2 b (by rw [←e1];exact hb)⟩
 | nmap z k kd es =>
  obtain ⟨hnil,ents,clock,k1,k2,k3,k4,k5,k6⟩:=h
  by_cases e:z=n
  ·subst e;simp only [Obj'.tr,wY,vD];exact ⟨hnil,ents,clock,k1,k2,k3,k4⟩
  ·simp only [Obj'.tr,nbeq e,vB]
   have:(g.trim n lo).base z=g.base z:=by simp [Gh.trim,e]
   exact ⟨hnil,ents,clock,k1,k2,k3,k4,fun i ent kv a1 a2=>by rw [this];exact k5 i ent kv a1 a2,fun b hb=>k6 b (by rw [←this];exact hb)⟩
theorem OR.trim {n lo len k:Nat} {xs:List V} {t:Option TypeId} {v:Value} (h:OR g w n (.arr k xs t)) (hv:VR g w v (.osl n k lo len)):OR (g.trim n lo) w n (.arr k ((xs.drop lo).take len) t):=by
 rcases h with ⟨h1,h2⟩|⟨h1,h2⟩
 ·exact .inl ⟨h1,by simp [h2]⟩
 ·refine .inr ⟨h1,?_⟩
  rcases hv.osl_inv with ⟨h3,_⟩|⟨_,o,cc,_,_,hcap,hlc,_⟩
  ·exact absurd h3 h1
  obtain ⟨kpos,⟨cur,e,fz,r1,r2,r3,r4⟩,hlen,hbig,helem⟩:=h2
  have e1:(g.trim n lo).base n=g.base n+lo:=by simp [Gh.trim]
  have e2:(g.trim n lo).cap n=g.cap n - lo:=by simp [Gh.trim]
  rw [e1,e2]
  refine ⟨kpos,⟨cur,e,fz,r1,?_,r3,fun i j x c hx hc=>?_⟩,?_,by omega,fun x hx=>helem x (zY (List.mem_of_mem_take hx))⟩
  ·rw [r2];congr 1;omega
  ·have hi:i<len:=by
    have:=(zG.1 hx).1
    simp at this;omega
   rw [xG,if_pos hi,xH] at hx
   have:=r4 (lo+i) j x c hx hc
   rw [show g.base n+lo+i=g.base n+(lo+i) by omega];exact this
  ·simp;omega
theorem Rel.trim {n lo len k s:Nat} {xs:List V} {t:Option TypeId} (h:Rel P c g σ a w) (hs:find s σ.env=some (.osl n k lo len)) (hf:find n σ.heap=some (.arr k xs t)) (h0:find n c.H0=none) :
  Rel P c (g.trim n lo) ⟨trE n lo len σ.env,Go.Ab.put n (.arr k ((xs.drop lo).take len) t) (trH n lo len σ.heap)⟩ a w:=by
 have key:∀m o,find m (Go.Ab.put n (.arr k ((xs.drop lo).take len) t) (trH n lo len σ.heap))=some o→(∃o',find m σ.heap=some o')∧OR (g.trim n lo) w m o:=fun m o hm=>by
  rw [find_put] at hm
  by_cases e:m=n
  ·subst e
   simp at hm;subst hm
   exact ⟨⟨_,hf⟩,(h.hp.obj m _ hf).trim (h.env s _ hs).2⟩
  ·simp only [e,if_false,find_trH] at hm
   cases hy:find m σ.heap with
   | none=>rw [hy] at hm;cases hm
   | some y=>rw [hy] at hm;cases hm;exact ⟨⟨_,rfl⟩,(h.hp.obj m _ hy).tr e⟩
 refine ⟨h.size,h.dfr,fun s x hx=>?_,⟨fun m o hm=>(key m o hm).2,fun i j o o' hi hj hni hnj he=>?_,fun m o hm hnil hS=>?_,h.hp.lt,h.hp.tabs⟩,⟨h.fr.os,h.fr.tape,h.fr.output,h.fr.size,h.fr.old,fun m o hm hnil=>?_,h.fr.sup,h.fr.sub,fun m o hm=>(h.fr.par m o hm).trans (trim_agree fun e=>?_)⟩⟩
 ·rw [find_trE] at hx
  cases hy:find s σ.env with
  | none=>rw [hy] at hx;cases hx
  | some y=>rw [hy] at hx;cases hx;exact ⟨(h.env s y hy).1,(h.env s y hy).2.tr⟩
 ·obtain ⟨o1,h1⟩:=(key i o hi).1
  obtain ⟨o2,h2⟩:=(key j o' hj).1
  exact h.hp.inj i j o1 o2 h1 h2 hni hnj he
 ·obtain ⟨o1,h1⟩:=(key m o hm).1
  exact h.hp.sep m o1 h1 hnil hS
 ·obtain ⟨o1,h1⟩:=(key m o hm).1
  exact h.fr.own m o1 h1 hnil
 ·rw [e,h0] at hm;cases hm
theorem Rel.nlc {id:Nat} {cs:List V} {t:Option TypeId} (h:Rel P c g σ a w) (hf:find id σ.heap=some (.cells cs t)):Rel P c g ⟨σ.env,Go.Ab.put id (.cells (V.unnilL cs) t) σ.heap⟩ a w:=by
 have key:∀m o,find m (Go.Ab.put id (.cells (V.unnilL cs) t) σ.heap)=some o→(∃o',find m σ.heap=some o')∧OR g w m o:=fun m o hm=>by
  rw [find_put] at hm
  by_cases e:m=id
  ·subst e
   simp at hm;subst hm
   refine ⟨⟨_,hf⟩,?_⟩
   obtain ⟨h1,cur,e,fz,h2,h3,h4,h5⟩:=h.hp.obj m _ hf
   refine ⟨h1,cur,e,fz,h2,by rw [unnilL_map];simpa using h3,h4,fun i x hx=>?_⟩
   rw [unnilL_map,xN] at hx
   cases hy:cs[i]? with
   | none=>rw [hy] at hx;cases hx
   | some y=>rw [hy] at hx;cases hx;exact (h5 i y hy).unnil
  ·simp only [e,if_false] at hm
   exact ⟨⟨_,hm⟩,h.hp.obj m _ hm⟩
 refine ⟨h.size,h.dfr,h.env,⟨fun m o hm=>(key m o hm).2,fun i j o o' hi hj hni hnj he=>?_,fun m o hm hnil hS=>?_,h.hp.lt,h.hp.tabs⟩,⟨h.fr.os,h.fr.tape,h.fr.output,h.fr.size,h.fr.old,fun m o hm hnil=>?_,h.fr.sup,h.fr.sub,h.fr.par⟩⟩
 ·obtain ⟨o1,h1⟩:=(key i o hi).1
  obtain ⟨o2,h2⟩:=(key j o' hj).1
  exact h.hp.inj i j o1 o2 h1 h2 hni hnj he
 ·obtain ⟨o1,h1⟩:=(key m o hm).1
  exact h.hp.sep m o1 h1 hnil hS
 ·obtain ⟨o1,h1⟩:=(key m o hm).1
  exact h.fr.own m o1 h1 hnil
theorem isB_vr {g:Gh} {w:World} {id:Nat} {x:V} {v:Value} (hx:x.isB id=true) (h:VR g w v x):VR g w v (.bptr id):=by
 unfold V.isB at hx
 split at hx
 ·rw [show v=.pointer none by cases h with|rd h=>cases h;rfl];exact .bnil id
 ·simp only [x4] at hx
  have e1:=zR hx.1
  have e2:=zR hx.2
  subst e1 e2
  rw [h.ptr_inv];exact .bself _
 ·have:=zR hx;subst this;exact h
 ·cases hx
theorem Rel.bld {id:Nat} {x:V} {cs:List V} {t:Option TypeId} (h:Rel P c g σ a w) (hf:find id σ.heap=some (.cells (x::cs) t)) (hx:x.isB id=true):Rel P c g ⟨σ.env,Go.Ab.put id (.cells (.bptr id::cs) t) σ.heap⟩ a w:=by
 have key:∀m o,find m (Go.Ab.put id (.cells (.bptr id::cs) t) σ.heap)=some o→(∃o',find m σ.heap=some o')∧OR g w m o:=fun m o hm=>by
  rw [find_put] at hm
  by_cases e:m=id
  ·subst e
   simp at hm;subst hm
   refine ⟨⟨_,hf⟩,?_⟩
   obtain ⟨h1,cur,e,fz,h2,h3,h4,h5⟩:=h.hp.obj m _ hf
   refine ⟨h1,cur,e,fz,h2,by simpa using h3,h4,fun i y hy=>?_⟩
   cases i with
   | zero=>simp at hy;subst hy;exact isB_vr hx (h5 0 x rfl)
   | succ i=>exact h5 (i+1) y (by simpa using hy)
  ·simp only [e,if_false] at hm
   exact ⟨⟨_,hm⟩,h.hp.obj m _ hm⟩
 refine ⟨h.size,h.dfr,h.env,⟨fun m o hm=>(key m o hm).2,fun i j o o' hi hj hni hnj he=>?_,fun m o hm hnil hS=>?_,h.hp.lt,h.hp.tabs⟩,⟨h.fr.os,h.fr.tape,h.fr.output,h.fr.size,h.fr.old,fun m o hm hnil=>?_,h.fr.sup,h.fr.sub,h.fr.par⟩⟩
 ·obtain ⟨o1,h1⟩:=(key i o hi).1
  obtain ⟨o2,h2⟩:=(key j o' hj).1
  exact h.hp.inj i j o1 o2 h1 h2 hni hnj he
 ·obtain ⟨o1,h1⟩:=(key m o hm).1
  exact h.hp.sep m o1 h1 hnil hS
 ·obtain ⟨o1,h1⟩:=(key m o hm).1
  exact h.fr.own m o1 h1 hnil
theorem isNils_inv:∀{x:V},x.isNils=true→x=.nils
 | .nils,_=>rfl
theorem Rel.nm {id z k:Nat} {kd:KD} {es:List (V×V)} (h:Rel P c g σ a w) (hf:find id σ.heap=some (.map kd es)) (hz:find z σ.heap=some .mark) (hn:es.all (fun e=>e.2.isNils)=true) :
  Rel P c g ⟨σ.env,Go.Ab.put id (.nmap z k kd (es.map fun e=>(e.1,.sl []))) σ.heap⟩ a w:=by
 have key:∀m o,find m (Go.Ab.put id (.nmap z k kd (es.map fun e=>(e.1,.sl []))) σ.heap)=some o→(∃o',find m σ.heap=some o')∧OR g w m o:=fun m o hm=>by
  rw [find_put] at hm
  by_cases e:m=id
  ·subst e
   simp at hm;subst hm
   refine ⟨⟨_,hf⟩,?_⟩
   obtain ⟨h1,ents,clock,h2,h3,h4,h5⟩:=h.hp.obj m _ hf
   have val:∀(i:Nat) (ent:MapEntry) (kv:V×V),ents[i]?=some ent→es[i]?=some kv→ent.val=.slice none 0 0:=fun i ent kv hi hj=>by
    have h6:=(h3.rd i ent kv (by simpa using hi) hj).2
    rw [isNils_inv (x3.1 hn kv (zZ hj))] at h6
    exact (VR.rd (g:=g) h6).nils_inv
   have un:∀(i:Nat) (kv:V×V),(es.map fun e=>(e.1,V.sl []))[i]?=some kv→∃kv',es[i]?=some kv'∧kv=(kv'.1,V.sl []):=fun i kv hj=>by
    rw [xN] at hj
    cases hx:es[i]? with
    | none=>rw [hx] at hj;cases hj
    | some kv'=>rw [hx] at hj;cases hj;exact ⟨kv',rfl,rfl⟩
   refine ⟨h1,ents,clock,h2,⟨by simpa using h3.len,fun kv hm=>?_,fun i ent kv hi hj=>?_⟩,h4,h5,fun i ent kv hi hj=>?_,(h.hp.obj z _ hz).2⟩
   ·obtain ⟨e,he,rfl⟩:=w4.1 hm
    exact h3.key e he
   ·obtain ⟨kv',e1,rfl⟩:=un i kv hj
    refine ⟨(h3.rd i ent kv' hi e1).1,?_⟩
    rw [val i ent kv' (by simpa using hi) e1];exact .nilsl
   ·obtain ⟨kv',e1,rfl⟩:=un i kv hj
    exact ⟨[],rfl,.inl ⟨val i ent kv' hi e1,rfl⟩⟩
  ·simp only [e,if_false] at hm
   exact ⟨⟨_,hm⟩,h.hp.obj m _ hm⟩
 refine ⟨h.size,h.dfr,h.env,⟨fun m o hm=>(key m o hm).2,fun i j o o' hi hj hni hnj he=>?_,fun m o hm hnil hS=>?_,h.hp.lt,h.hp.tabs⟩,⟨h.fr.os,h.fr.tape,h.fr.output,h.fr.size,h.fr.old,fun m o hm hnil=>?_,h.fr.sup,h.fr.sub,h.fr.par⟩⟩
 ·obtain ⟨o1,h1⟩:=(key i o hi).1
  obtain ⟨o2,h2⟩:=(key j o' hj).1
  exact h.hp.inj i j o1 o2 h1 h2 hni hnj he
 ·obtain ⟨o1,h1⟩:=(key m o hm).1
  exact h.hp.sep m o1 h1 hnil hS
 ·obtain ⟨o1,h1⟩:=(key m o hm).1
  exact h.fr.own m o1 h1 hnil
theorem note_sound {n:Note} {K:St→Prop} (h:stepNote c.H0 n σ K) (hR:Rel P c g σ a w):∃g' σ',K σ'∧Rel P c g' σ' a w:=by
 cases n with
 | gc keep=>exact ⟨g,_,h,hR.sub (fun s x hx=>find_filt hx) fun _ _ h=>h⟩
 | adq s q =>
  simp only [stepNote] at h
  split at h
  ·rename_i id off y hs hq
   exact ⟨g,_,h (g.ρ id),hR.putv hq (.at_ id _ _ rfl)⟩
  ·exact h.elim
 | toA s q =>
  simp only [stepNote] at h
  split at h
  ·rename_i id off id' b hs hq
   cases hi:Nat.beq id id' with
   | false=>rw [hi] at h;exact h.elim
   | true =>
    rw [hi] at h
    have e:=zR hi;subst e
    have h1:=(hR.env s _ hs).2
    have h2:=(hR.env q _ hq).2
    refine ⟨g,_,h,hR.putv hs ?_⟩
    rw [h1.ptr_inv,←h2.at_inv];exact .rd (.adr _ _)
  ·exact h.elim
 | ofA s q =>
  simp only [stepNote] at h
  split at h
  ·rename_i b off id b' hs hq
   obtain ⟨rfl,h⟩:=h
   have h1:=(hR.env s _ hs).2
   have h2:=(hR.env q _ hq).2
   refine ⟨g,_,h,hR.putv hs ?_⟩
   rw [h1.adr_inv,←h2.at_inv];exact .ptr _ _
  ·exact h.elim
 | nm id z k =>
  simp only [stepNote] at h
  split at h
  ·rename_i kd es hf
   split at h
   ·rename_i hz
    cases hn:es.all fun e=>e.2.isNils with
    | false=>rw [hn] at h;exact h.elim
    | true=>rw [hn] at h;exact ⟨g,_,h,hR.nm hf hz hn⟩
   ·exact h.elim
  ·exact h.elim
 | bld id =>
  simp only [stepNote] at h
  split at h
  ·rename_i x cs t hf
   cases hx:x.isB id with
   | false=>rw [hx] at h;exact h.elim
   | true=>rw [hx] at h;exact ⟨g,_,h,hR.bld hf hx⟩
  ·exact h.elim
 | fz s =>
  simp only [stepNote] at h
  split at h
  ·rename_i x hx
   obtain ⟨g',σ',h1,h2⟩:=shqs_sound h hR
   split at h1
   ·rename_i y hy
    exact ⟨g',_,h1,h2.nl hy⟩
   ·exact h1.elim
  ·exact ⟨g,σ,h,hR⟩
 | fzc s =>
  simp only [stepNote] at h
  split at h
  ·rename_i id off hs
   split at h
   ·rename_i cs t hf
    obtain ⟨g',σ',h1,h2⟩:=shqs_sound h hR
    split at h1
    ·rename_i ds t' hd
     exact ⟨g',_,h1,h2.nlc hd⟩
    ·exact h1.elim
   ·exact h.elim
  ·exact h.elim
 | trim s =>
  simp only [stepNote] at h
  split at h
  ·rename_i id k lo n hs
   split at h
   ·rename_i k' xs t hf h0
    cases hk:Nat.beq k k' with
    | false=>rw [hk] at h;exact h.elim
    | true =>
     rw [hk] at h
     have:=zR hk;subst this
     exact ⟨_,_,h,hR.trim hs hf h0⟩
   ·exact h.elim
  ·exact ⟨g,σ,h,hR⟩
 | ownC id off id2 k ty =>
  simp only [stepNote] at h
  split at h
  ·rename_i cs t hf
   split at h
   ·rename_i hn
    cases hc:cleanL c.H0 σ [id2]&&!inHeap id2 σ.heap&&!Nat.beq id id2 with
    | false=>rw [hc] at h;exact h.elim
    | true =>
     rw [hc] at h
     simp only [x4,xR] at hc
     refine ⟨_,_,h,hR.accC hf hn (cleanL_inv hc.1.1 id2 xE) fun e=>?_⟩
     have hj:=hc.2
     rw [e,wY] at hj;cases hj
   ·rename_i j k' lo n hn
    cases hj:Nat.beq j id2 with
    | true=>rw [hj] at h;exact ⟨g,σ,h,hR⟩
    | false =>
     rw [hj] at h
     simp only [vB] at h
     cases hc:cleanL c.H0 σ [id2]&&!inHeap id2 σ.heap&&inHeap j σ.heap with
     | false=>rw [hc] at h;exact h.elim
     | true =>
      rw [hc] at h
      simp only [x4,xR] at hc
      refine ⟨_,_,h,hR.ren (fun e=>?_) (cleanL_inv hc.1.1 id2 xE) hc.1.2⟩
      rw [e,wY] at hj;cases hj
   ·exact h.elim
  ·exact h.elim
 | fact s =>
  refine ⟨g,σ,h ?_,hR⟩
  rw [get_find]
  cases hf:find s σ.env with
  | none=>simp [V.fact]
  | some x=>exact (hR.env s x hf).2.fact
 | ren j id =>
  simp only [stepNote] at h
  cases hc:cleanL c.H0 σ [id]&&!inHeap id σ.heap&&!Nat.beq j id with
  | false=>rw [hc] at h;exact h.elim
  | true =>
   rw [hc] at h
   simp only [x4,xR] at hc
   refine ⟨_,_,h,hR.ren (fun e=>?_) (cleanL_inv hc.1.1 id xE) hc.1.2⟩
   have hj:=hc.2
   rw [e,wY] at hj;cases hj
 | renq j id =>
  simp only [stepNote] at h
  cases hj:inHeap j σ.heap with
  | false=>rw [hj] at h;exact ⟨_,_,h,hR⟩
  | true =>
   rw [hj] at h
   simp only [vD] at h
   cases hc:cleanL c.H0 σ [id]&&!inHeap id σ.heap&&!Nat.beq j id with
   | false=>rw [hc] at h;exact h.elim
   | true =>
    rw [hc] at h
    simp only [x4,xR] at hc
    refine ⟨_,_,h,hR.ren (fun e=>?_) (cleanL_inv hc.1.1 id xE) hc.1.2⟩
    have hj:=hc.2
    rw [e,wY] at hj;cases hj
 | shq id =>
  simp only [stepNote] at h
  split at h
  ·rename_i k xs hf
   exact ⟨_,_,h.2.2,hR.shut hf h.1 h.2.1⟩
  ·rename_i kd es hf
   exact ⟨_,_,h,hR.shm hf (.rd (map_sealed (hR.hp.obj _ _ hf)))⟩
  ·rename_i z k kd es hf
   exact ⟨_,_,h,hR.shm hf (nmap_sealed (hR.hp.obj _ _ hf))⟩
  ·exact ⟨_,_,h,hR⟩
  ·exact h.elim
 | shut id =>
  simp only [stepNote] at h
  split at h
  ·rename_i k xs hf
   exact ⟨_,_,h.2.2,hR.shut hf h.1 h.2.1⟩
  ·rename_i kd es hf
   exact ⟨_,_,h,hR.shm hf (.rd (map_sealed (hR.hp.obj _ _ hf)))⟩
  ·rename_i z k kd es hf
   exact ⟨_,_,h,hR.shm hf (nmap_sealed (hR.hp.obj _ _ hf))⟩
  ·exact h.elim
 | accA s off id k =>
  simp only [stepNote] at h
  split at h
  ·rename_i cs hf
   split at h
   ·rename_i hn
    cases hc:cleanL c.H0 σ [id]&&!inHeap id σ.heap with
    | false=>rw [hc] at h;exact h.elim
    | true =>
     rw [hc] at h
     simp only [vD] at h
     simp only [x4,xR] at hc
     have hcl:=cleanL_inv hc.1 id xE
     obtain ⟨hlt,hv⟩:=hR.env s _ hf
     have hst:=StepOK.newNil (g:=g) (w:=w) (V.agg (cs.set off (.osl id k 0 0))) id k [] none hR.hp
     have hfr:Fresh c.H0 g (g.setNil id) σ ⟨.agg (cs.set off (.osl id k 0 0)),[],[(id,.arr k [])]⟩:=Fresh.of_clean hcl
     have hv':VR (g.setNil id) w (a.tmps.getD s undef) (.agg (cs.set off (.osl id k 0 0))):=by
      have hne:=noEnv_find hcl.2.1 hf
      have h2:VR (g.setNil id) w (a.tmps.getD s undef) (.agg cs):=VR.mono (g:=g) (g':=g.setNil id) (w:=w) (w':=w) (fun _ _=>rfl) (fun _ h=>h) hv fun i (hi:V.has i (.agg cs)=true)=>Gh.setNil_agree (g:=g) (n:=id) fun e=>by rw [e] at hi;rw [hne] at hi;cases hi
      obtain ⟨vs,e1,e2,e3⟩:=h2.agg_inv
      rw [e1]
      refine .agg vs _ (by rw [List.length_set];exact e2) fun j x hj=>?_
      rw [xM] at hj
      by_cases e4:off=j
      ·subst e4
       have hlo:off<cs.length:=(zG.1 hn).1
       simp [hlo] at hj;subst hj
       rw [(e3 off _ hn).nils_inv];exact .oslnil id k 0 (.inl rfl)
      ·rw [if_neg e4] at hj;exact e3 j x hj
     have:=hR.step (d:=some s) (fun n hn=>by cases hn;exact hlt) hst hfr hv'
     refine ⟨g.setNil id,_,h,?_⟩
     have e:a.put (some s) (a.tmps.getD s undef)=a:=by
      have hlt':s<a.tmps.size:=by rw [hR.size];exact hlt
      have e1:a.tmps.setIfInBounds s (a.tmps.getD s undef)=a.tmps:=by
       refine Array.ext (by simp) fun i h1 h2=>?_
       rw [Array.getElem_setIfInBounds]
       ·by_cases e:s=i
        ·subst e;simp [hlt']
        ·simp [e]
       ·exact h2
      simp only [Act.put,e1]
     rw [e] at this
     exact this
   ·rename_i j k' lo n hs
    cases hj:Nat.beq j id with
    | true=>rw [hj] at h;exact ⟨g,σ,h,hR⟩
    | false =>
     rw [hj] at h
     simp only [vB] at h
     cases hc:cleanL c.H0 σ [id]&&!inHeap id σ.heap&&inHeap j σ.heap with
     | false=>rw [hc] at h;exact h.elim
     | true =>
      rw [hc] at h
      simp only [x4,xR] at hc
      refine ⟨_,_,h,hR.ren (fun e=>?_) (cleanL_inv hc.1.1 id xE) hc.1.2⟩
      rw [e,wY] at hj;cases hj
   ·exact h.elim
  ·exact h.elim
 | acc s id k =>
  simp only [stepNote] at h
  split at h
  ·rename_i hs
   cases hc:cleanL c.H0 σ [id]&&!inHeap id σ.heap with
   | false=>rw [hc] at h;exact h.elim
   | true =>
    rw [hc] at h
    simp only [vD] at h
    simp only [x4,xR] at hc
    have hcl:=cleanL_inv hc.1 id xE
    have hf:find s σ.env=some .nils:=by
     rw [get_find] at hs
     cases hf:find s σ.env with
     | none=>rw [hf] at hs;cases hs
     | some x=>rw [hf] at hs;simp at hs;rw [hs]
    obtain ⟨hlt,hv⟩:=hR.env s _ hf
    have hst:=StepOK.newNil (g:=g) (w:=w) (V.osl id k 0 0) id k [] none hR.hp
    have hfr:Fresh c.H0 g (g.setNil id) σ ⟨.osl id k 0 0,[],[(id,.arr k [])]⟩:=Fresh.of_clean hcl
    have hv':VR (g.setNil id) w (a.tmps.getD s undef) (.osl id k 0 0):=by
     rw [hv.nils_inv];exact .oslnil id k 0 (.inl rfl)
    have:=hR.step (d:=some s) (fun n hn=>by cases hn;exact hlt) hst hfr hv'
    refine ⟨g.setNil id,_,h,?_⟩
    have e:a.put (some s) (a.tmps.getD s undef)=a:=by
     have hlt':s<a.tmps.size:=by rw [hR.size];exact hlt
     have e1:a.tmps.setIfInBounds s (a.tmps.getD s undef)=a.tmps:=by
      refine Array.ext (by simp) fun i h1 h2=>?_
      rw [Array.getElem_setIfInBounds]
      ·by_cases e:s=i
       ·subst e;simp [hlt']
       ·simp [e]
      ·exact h2
     simp only [Act.put,e1]
    rw [e] at this
    exact this
  ·rename_i j k' lo n hs
   cases hj:Nat.beq j id with
   | true=>rw [hj] at h;exact ⟨g,σ,h,hR⟩
   | false =>
    rw [hj] at h
    simp only [vB] at h
    cases hc:cleanL c.H0 σ [id]&&!inHeap id σ.heap&&inHeap j σ.heap with
    | false=>rw [hc] at h;exact h.elim
    | true =>
     rw [hc] at h
     simp only [x4,xR] at hc
     refine ⟨_,_,h,hR.ren (fun e=>?_) (cleanL_inv hc.1.1 id xE) hc.1.2⟩
     rw [e,wY] at hj;cases hj
  ·exact h.elim
end
end Go.Ab
namespace Go.Ab
open Go.RowKit
def subE:List (Nat×V)→List (Nat×V)→Prop
 | [],_=>True
 | (n,x)::r,env=>get n env=x∧subE r env
def subHp:Heap→Heap→Prop
 | [],_=>True
 | (n,o)::r,H=>find n H=some o∧subHp r H
def V.nav:V→Bool
 | .any=>false
 | _=>true
def noAny:List (Nat×V)→Bool
 | []=>true
 | (_,x)::r=>x.nav&&noAny r
def distinct {α:Type}:List (Nat×α)→Bool
 | []=>true
 | (n,_)::r=>(match find n r with|none=>true|some _=>false)&&distinct r
def St.good (τ:St):Bool:=noAny τ.env&&distinct τ.env&&distinct τ.heap
def SubSt (τ σ:St):Prop:=τ.good=true∧subE τ.env σ.env∧subHp τ.heap σ.heap
def factsSt (σ:St):Prop:=factsE σ.env∧factsH σ.heap
def stepNs (H0:Heap):List Note→St→(St→Prop)→Prop
 | [],σ,K=>K σ
 | n::r,σ,K=>stepNote H0 n σ fun σ'=>stepNs H0 r σ' K
theorem shqs_mono {K K':St→Prop} (hk:∀σ,K σ→K' σ):∀{l:List Nat} {σ:St},shqs l σ K→shqs l σ K'
 | [],_,h=>hk _ h
 | id::r,σ,h=>by
  simp only [shqs,shq1] at h ⊢
  split at h<;>first|exact ⟨h.1,h.2.1,shqs_mono hk h.2.2⟩|exact shqs_mono hk h|exact h.elim
theorem gcond {b:Bool} {p q:Prop} (h:p→q) (hp:bif b then p else False):bif b then q else False:=by
 cases b with
 | true=>exact h hp
 | false=>exact hp
theorem stepNote_mono {H0:Heap} {n:Note} {σ:St} {K K':St→Prop} (hk:∀σ,K σ→K' σ) (h:stepNote H0 n σ K):stepNote H0 n σ K':=by
 cases n<;>simp only [stepNote] at h ⊢
 case gc=>exact hk _ h
 case fact=>exact fun hf=>hk _ (h hf)
 case adq=>split at h<;>first|exact fun b=>hk _ (h b)|exact h.elim
 case toA=>split at h<;>first|exact gcond (hk _) h|exact h.elim
 case ofA=>split at h<;>first|exact ⟨h.1,hk _ h.2⟩|exact h.elim
 case nm =>
  split at h
  ·split at h
   ·exact gcond (hk _) h
   ·exact h.elim
  ·exact h.elim
 case bld id =>
  split at h
  ·rename_i x cs t hf
   cases hb:x.isB id with
   | true=>rw [hb] at h;exact hk _ h
   | false=>rw [hb] at h;exact h.elim
  ·exact h.elim
 case ren=>exact gcond (hk _) h
 case renq j id =>
  cases hb:inHeap j σ.heap with
  | true=>rw [hb] at h;exact gcond (hk _) h
  | false=>rw [hb] at h;exact hk _ h
 case accA s off id k =>
  split at h
  ·split at h
   ·exact gcond (hk _) h
   ·rename_i j _ _ _ _
    cases hb:Nat.beq j id with
    | true=>rw [hb] at h;exact hk _ h
    | false=>rw [hb] at h;exact gcond (hk _) h
   ·exact h.elim
  ·exact h.elim
 case acc s id k =>
  split at h
  ·exact gcond (hk _) h
  ·rename_i j _ _ _ _
   cases hb:Nat.beq j id with
   | true=>rw [hb] at h;exact hk _ h
   | false=>rw [hb] at h;exact gcond (hk _) h
  ·exact h.elim
 case shut=>split at h<;>first|exact ⟨h.1,h.2.1,hk _ h.2.2⟩|exact hk _ h|exact h.elim
 case shq=>split at h<;>first|exact ⟨h.1,h.2.1,hk _ h.2.2⟩|exact hk _ h|exact h.elim
 case ownC id off id2 k ty =>
  split at h
  ·split at h
   ·exact gcond (hk _) h
   ·rename_i j _ _ _ _
    cases hb:Nat.beq j id2 with
    | true=>rw [hb] at h;exact hk _ h
    | false=>rw [hb] at h;exact gcond (hk _) h
   ·exact h.elim
  ·exact h.elim
 case fz =>
  split at h
  ·refine shqs_mono (fun σ' h'=>?_) h
   split at h'<;>first|exact hk _ h'|exact h'.elim
  ·exact hk _ h
 case fzc =>
  split at h
  ·split at h
   ·refine shqs_mono (fun σ' h'=>?_) h
    split at h'<;>first|exact hk _ h'|exact h'.elim
   ·exact h.elim
  ·exact h.elim
 case trim =>
  split at h
  ·split at h
   ·exact gcond (hk _) h
   ·exact h.elim
  ·exact hk _ h
theorem stepNs_mono {H0:Heap} {K K':St→Prop} (hk:∀σ,K σ→K' σ):∀{ns:List Note} {σ:St},stepNs H0 ns σ K→stepNs H0 ns σ K'
 | [],_,h=>hk _ h
 | n::r,σ,h=>stepNote_mono (n:=n) (fun σ' h'=>stepNs_mono hk h') h
inductive It where
 | op (m:MOp)
 | nt (n:Note)
 | grp (ms:List MOp)
def itsOps:List It→List MOp
 | []=>[]
 | .op m::r=>m::itsOps r
 | .nt _::r=>itsOps r
 | .grp ms::r=>ms++itsOps r
def runI (P:Program) (H0:Heap):List It→St→(St→Prop)→Prop
 | [],σ,K=>K σ
 | .op m::r,σ,K=>runOne P H0 m σ fun σ'=>runI P H0 r σ' K
 | .nt n::r,σ,K=>stepNote H0 n σ fun σ'=>runI P H0 r σ' K
 | .grp ms::r,σ,K=>Lk (∃(α:Type) (I:α→St) (p:α→Prop),runN P H0 ms σ (fun σ'=>Lk (∃y,p y∧SubSt (I y) σ'))∧∀y,p y→factsSt (I y)→runI P H0 r (I y) K)
section
variable {P:Program} {c:Ctx} {g:Gh} {σ:St} {a:Act} {w:World}
theorem subE_find {s:Nat} {x:V}:∀{τ env:List (Nat×V)},noAny τ=true→subE τ env→find s τ=some x→find s env=some x
 | (n,y)::r,env,hn,h,hf=>by
  simp only [noAny,x4] at hn
  simp only [subE] at h
  simp only [find] at hf
  cases hb:Nat.beq s n with
  | true =>
   rw [hb] at hf;cases hf
   have e:=zR hb;subst e
   have h1:=h.1
   rw [get_find] at h1
   cases hg:find s env with
   | none=>rw [hg] at h1;simp at h1;subst h1;simp [V.nav] at hn
   | some z=>rw [hg] at h1;simp at h1;rw [h1]
  | false=>rw [hb] at hf;exact subE_find hn.2 h.2 hf
theorem subHp_find {s:Nat} {x:Obj'}:∀{τ env:Heap},subHp τ env→find s τ=some x→find s env=some x
 | (n,y)::r,env,h,hf=>by
  simp only [subHp] at h
  simp only [find] at hf
  cases hb:Nat.beq s n with
  | true =>
   rw [hb] at hf;cases hf
   have e:=zR hb;subst e
   exact h.1
  | false=>rw [hb] at hf;exact subHp_find h.2 hf
theorem Rel.subSt {g:Gh} {σ τ:St} {a:Act} {w:World} (h:Rel P c g σ a w) (hs:SubSt τ σ):Rel P c g τ a w:=by
 obtain ⟨h1,h2,h3⟩:=hs
 simp only [St.good,x4] at h1
 exact h.sub (fun _ _ hx=>subE_find h1.1.1 h2 hx) fun _ _ hx=>subHp_find h3 hx
theorem distinct_find {α:Type} {n:Nat} {x:α}:∀{l:List (Nat×α)},distinct l=true→(n,x)∈l→find n l=some x
 | (m,y)::r,h,hm=>by
  simp only [distinct,x4] at h
  rcases wO.1 hm with e|hm
  ·cases e;simp [find]
  ·have ih:=distinct_find h.2 hm
   have hb:Nat.beq n m=false:=by
    cases hb:Nat.beq n m with
    | true =>
     have e:=zR hb;subst e
     rw [ih] at h;simp at h
    | false=>rfl
   simp only [find,hb,vB];exact ih
theorem factsE_of:∀{env:List (Nat×V)},(∀s x,(s,x)∈env→x.fact)→factsE env
 | [],_=>trivial
 | (n,x)::r,h=>⟨h n x xE,factsE_of fun s y hy=>h s y (z7 _ hy)⟩
theorem factsH_of:∀{H:Heap},(∀s x,(s,x)∈H→x.fact)→factsH H
 | [],_=>trivial
 | (n,x)::r,h=>⟨h n x xE,factsH_of fun s y hy=>h s y (z7 _ hy)⟩
theorem Rel.factsSt {g:Gh} {σ:St} {a:Act} {w:World} (h:Rel P c g σ a w) (hg:σ.good=true):factsSt σ:=by
 simp only [St.good,x4] at hg
 exact ⟨factsE_of fun s x hx=>(h.env s x (distinct_find hg.1.2 hx)).2.fact,factsH_of fun s x hx=>(h.hp.obj s x (distinct_find hg.2 hx)).fact⟩
theorem ns_sound:∀{ns:List Note} {K:St→Prop} {g:Gh} {σ:St},stepNs c.H0 ns σ K→Rel P c g σ a w→∃g' σ',K σ'∧Rel P c g' σ' a w
 | [],K,g,σ,h,hR=>⟨g,σ,h,hR⟩
 | n::r,K,g,σ,h,hR=>by
  obtain ⟨g',σ',h',hR'⟩:=note_sound (n:=n) (K:=fun σ'=>stepNs c.H0 r σ' K) h hR
  exact ns_sound h' hR'
theorem runOne_sound {ops:Array Oper} {Q:Exit→Act→World→Prop} {K:St→Prop} {m:MOp} {r:List MOp} {i:Nat} {g:Gh} {σ:St} {a:Act} {w:World} (hok:mopsOK P c.nt ops (m::r) (ops.toList.drop i)=true) (hR:Rel P c g σ a w) (h:runOne P c.H0 m σ K)
  (ih:∀g σ a w,mopsOK P c.nt ops r (ops.toList.drop (i+1))=true→K σ→Rel P c g σ a w→wpOps P ops Q (List.range' (i+1) r.length) a w):wpOps P ops Q (List.range' i (m::r).length) a w:=by
 rw [xX,List.range'_succ,wpOps_cons]
 cases hd:ops.toList.drop i with
 | nil=>rw [hd] at hok;simp [mopsOK] at hok
 | cons o s =>
  rw [hd] at hok
  simp only [mopsOK,x4] at hok
  obtain ⟨hm,hr⟩:=hok
  have hi:ops[i]?=some o:=by
   have:(ops.toList.drop i)[0]?=some o:=by rw [hd];rfl
   rw [xH,wZ,zU] at this
   exact this
  have hs:ops.toList.drop (i+1)=s:=by
   have:=congrArg List.tail hd
   simpa using this
  rw [←hs] at hr
  have ih:=fun g σ a w=>ih g σ a w hr
  have hm':=hm
  simp only [MOp.ok,x4] at hm'
  obtain ⟨⟨_,h2⟩,h3⟩:=hm'
  obtain ⟨hdd,hlt⟩:=dstOK_inv h2
  simp only [wpOp,hi]
  simp only [runOne] at h
  cases hg:m.guard with
  | none =>
   rw [hg] at h h3
   simp only [guard_none h3,if_true]
   exact .inl (runIns_sound hm hR h fun eff he g' a' w' hR'=>ih g' _ a' w' he hR')
  | some p =>
   obtain ⟨t,want⟩:=p
   rw [hg] at h h3
   simp only at h
   split at h
   case h_3=>exact h.elim
   case h_2 hb =>
    rw [guard_tup h3 hR hb]
    simp only [xI,if_false]
    exact ih g _ _ w h (by rw [←hdd];exact hR.undef' hlt)
   rename_i b hb
   obtain ⟨hx,hy⟩:=h
   rw [guard_wanted h3 hR hb]
   have hf:=get_bool hb
   by_cases hbw:b=want
   ·subst hbw
    have hw:beqB b b=true:=by cases b<;>rfl
    simp only [hw,if_true]
    have hx:=hx rfl
    rw [put_same hf] at hx
    exact .inl (runIns_sound hm hR hx fun eff he g' a' w' hR'=>ih g' _ a' w' he hR')
   ·have hbn:b=(!want):=by cases b<;>cases want<;>first|rfl|exact absurd rfl hbw
    have hw:beqB b want=false:=by rw [hbn];cases want<;>rfl
    simp only [hw,xI,if_false]
    have hy:=hy hbn
    rw [←hbn,put_same hf] at hy
    exact ih g _ _ w hy (by rw [←hdd];exact hR.undef' hlt)
theorem runNr_sound {ops:Array Oper} {Q:Exit→Act→World→Prop} {K:St→Prop} {rest:List MOp} :
  ∀(ms:List MOp) (i:Nat) (g:Gh) (σ:St) (a:Act) (w:World),mopsOK P c.nt ops (ms++rest) (ops.toList.drop i)=true→Rel P c g σ a w→runN P c.H0 ms σ K →
  (∀σ' g' a' w',K σ'→mopsOK P c.nt ops rest (ops.toList.drop (i+ms.length))=true→Rel P c g' σ' a' w'→wpOps P ops Q (List.range' (i+ms.length) rest.length) a' w')→wpOps P ops Q (List.range' i (ms++rest).length) a w
 | [],i,g,σ,a,w,hok,hR,h,hK=>hK σ g a w h hok hR
 | m::r,i,g,σ,a,w,hok,hR,h,hK=>by
  refine runOne_sound (K:=fun σ'=>runN P c.H0 r σ' K) hok hR h fun g σ a w hok' h' hR'=>?_
  refine runNr_sound r (i+1) g σ a w hok' hR' h' fun σ' g' a' w' k1 k2 k3=>?_
  have e:i+(m::r).length=i+1+r.length:=by simp;omega
  have:=hK σ' g' a' w' k1 (by rw [e];exact k2) k3
  rwa [e] at this
theorem runI_sound {ops:Array Oper} {Q:Exit→Act→World→Prop} {K:St→Prop} (hK:∀σ' g' a' w',K σ'→Rel P c g' σ' a' w'→Q .normal a' w') :
  ∀(ms:List It) (i:Nat) (g:Gh) (σ:St) (a:Act) (w:World),mopsOK P c.nt ops (itsOps ms) (ops.toList.drop i)=true→Rel P c g σ a w→runI P c.H0 ms σ K→wpOps P ops Q (List.range' i (itsOps ms).length) a w
 | [],i,g,σ,a,w,_,hR,h=>hK σ g a w h hR
 | .nt n::r,i,g,σ,a,w,hok,hR,h=>by
  obtain ⟨g',σ',h',hR'⟩:=note_sound (n:=n) (K:=fun σ'=>runI P c.H0 r σ' K) h hR
  exact runI_sound hK r i g' σ' a w hok hR' h'
 | .op m::r,i,g,σ,a,w,hok,hR,h =>
  runOne_sound (K:=fun σ'=>runI P c.H0 r σ' K) hok hR h fun g σ a w hok' h' hR'=>runI_sound hK r (i+1) g σ a w hok' hR' h'
 | .grp ms::r,i,g,σ,a,w,hok,hR,h=>by
  obtain ⟨α,I,p,h1,h2⟩:=Lk.out h
  refine runNr_sound ms i g σ a w hok hR h1 fun σ' g' a' w' k1 k2 k3=>?_
  obtain ⟨y,hy,hs⟩:=Lk.out k1
  have hr':=k3.subSt hs
  exact runI_sound hK r _ g' (I y) a' w' k2 hr' (h2 y hy (hr'.factsSt hs.1))
theorem regionI_ops {ops:Array Oper} {ms:List It} {Q:Exit→Act→World→Prop} {K:St→Prop} (hK:∀σ' g' a' w',K σ'→Rel P c g' σ' a' w'→Q .normal a' w')
  (hok:mopsOK P c.nt ops (itsOps ms) ops.toList=true) (hR:Rel P c g σ a w) (h:runI P c.H0 ms σ K):wpOps P ops Q (List.range ops.size) a w:=by
 have hl:∀{ms:List MOp} {l:List Oper},mopsOK P c.nt ops ms l=true→ms.length=l.length:=by
  intro ms
  induction ms with
  | nil =>
   intro l h
   cases l with
   | nil=>rfl
   | cons o s=>cases h
  | cons m r ih =>
   intro l h
   cases l with
   | nil=>cases h
   | cons o s =>
    simp only [mopsOK,x4] at h
    simp only [xX,ih h.2]
 have:=runI_sound hK ms 0 g σ a w (by rw [wL];exact hok) hR h
 rw [hl hok,xB] at this
 rwa [List.range_eq_range']
end
end Go.Ab
namespace Go.Ab
open Go.RowKit
def WF (r:Option Nat):Fence:={ Fence.wide with round:=r }
theorem wf_room (r:Option Nat) (n:Nat):(WF r).room n:=room_wide n
section
variable {P:Program} {r:Option Nat} {n:Nat}
theorem callsIn_wf {f:FuncId} {args:Array Value} {w:World} {R:Ending→World→Prop} (h:Calls P f args w R):CallsIn (WF r) n P f args w R :=
 ⟨trivial,fun cs hr=>((callsIn_wide (n:=n)).2 h).2 cs hr⟩
theorem calls_wf {f:FuncId} {args:Array Value} {w:World} {R:Ending→World→Prop} (h:CallsIn (WF r) n P f args w R):Calls P f args w R :=
 h.calls (wf_room r)
theorem rowsIn_wf {row:String} {args:Array Value} {w:World} {R:Value→World→Prop} (h:Rows P row args w R):RowsIn (WF r) n P row args w R :=
 fun c cs _=>let ⟨v,w',hr,hs⟩:=h c cs;⟨v,w',hr,stepsIn_wide.2 hs⟩
def notDefer (o:Oper):Bool:=match o.op with|.defer _=>false|_=>true
theorem notDefer_ne {o:Oper} (h:notDefer o=true):∀c,o.op≠.defer c:=by
 intro c e;simp [notDefer,e] at h
theorem opIn_of {o:Oper} {a:Act} {w:World} {K:Act→World→Prop} {Q:Exit→Act→World→Prop} (hd:notDefer o=true) (h:o.wp P a w K Q):o.wpIn (WF r) n P a w K Q:=by
 refine ⟨fun _ _=>trivial,?_⟩
 rw [Oper.semAt_eq _ _ _ (notDefer_ne hd)]
 unfold Oper.wp at h
 generalize (execOp a.eval o).run P w=res at *
 cases res with
 | ok x w' =>
  cases x with
  | value v=>exact h
  | skip=>exact h
  | enter f args=>exact ⟨fun h=>by simp [WF,Fence.wide] at h,callsIn_wf h⟩
  | row row args=>exact ⟨fun h=>by simp [WF,Fence.wide] at h,rowsIn_wf h⟩
  | _=>first|exact h|exact h.elim
 | halt x w' => 
  cases x with
  | panic v=>exact h
  | _=>exact h.elim
theorem opsIn_of {ops:Array Oper} {Q:Exit→Act→World→Prop} (hd:(ops.toList.all notDefer)=true) (hQ:∀a w,¬Q .outgrown a w) :
  ∀(l:List Nat) (a:Act) (w:World),wpOps P ops Q l a w→wpOpsIn (WF r) n P ops Q l a w
 | [],a,w,h=>h
 | i :: rest,a,w,h=>by
  simp only [wpOps] at h
  simp only [wpOpsIn]
  cases ho:ops[i]? with
  | none=>rw [ho] at h;exact opsIn_of hd hQ rest a w h
  | some o =>
   rw [ho] at h
   have hnd:notDefer o=true:=by
    have:=x3.1 hd o (by
     have:=zU (xs:=ops) (i:=i)
     rw [ho] at this
     exact zZ this)
    exact this
   by_cases hw:Region.wanted o (yielded ops a.tmps)=true
   ·simp only [hw,if_true] at h ⊢
    rcases h with h|⟨_,a0,w0,h⟩
    ·exact Oper.wpIn_mono (fun a w h=>opsIn_of hd hQ rest a w h) (opIn_of hnd h)
    ·exact absurd h (hQ a0 w0)
   ·simp only [hw,if_false] at h ⊢
    exact ⟨fun _ _=>trivial,opsIn_of hd hQ rest _ w h⟩
variable {c:Ctx} {g:Gh} {σ:St} {a:Act} {w:World}
theorem region_in {id:Nat} {ops:Array Oper} {ms:List MOp} {Q:Exit→Act→World→Prop} {K:St→Prop} (hd:(ops.toList.all notDefer)=true) (hQ:∀a w,¬Q .outgrown a w) (hK:∀σ' g' a' w',K σ'→Rel P c g' σ' a' w'→Q .normal a' w')
  (hok:mopsOK P c.nt ops ms ops.toList=true) (hR:Rel P c g σ a w) (h:runN P c.H0 ms σ K):(Code.region id ops false).wpIn (WF r) n P Q a w :=
 wpIn_region (opsIn_of hd hQ _ _ _ (region_ops hK hok hR h))
theorem regionI_in {id:Nat} {ops:Array Oper} {ms:List It} {Q:Exit→Act→World→Prop} {K:St→Prop} (hd:(ops.toList.all notDefer)=true) (hQ:∀a w,¬Q .outgrown a w) (hK:∀σ' g' a' w',K σ'→Rel P c g' σ' a' w'→Q .normal a' w')
  (hok:mopsOK P c.nt ops (itsOps ms) ops.toList=true) (hR:Rel P c g σ a w) (h:runI P c.H0 ms σ K):(Code.region id ops false).wpIn (WF r) n P Q a w :=
 wpIn_region (opsIn_of hd hQ _ _ _ (regionI_ops hK hok hR h))
theorem regionD_in {id:Nat} {ops:Array Oper} {ms:List MOp} {aft anc:List (List Nat)} {Q:Exit→Act→World→Prop} {K:St→Prop} (hd:(ops.toList.all notDefer)=true) (hQ:∀a w,¬Q .outgrown a w) (hmix:P.follows .mixedOrders=true)
  (hK:∀σ' g' a' w',K σ'→Rel P c g' σ' a' w'→Q .normal a' w') (hok:mopsOK P c.nt ops ms ops.toList=true) (haft:aftOK aft ops.toList=true) (hanc:ancOK anc 0 aft anc=true) (hlate:lateOK ms ms anc=true) (hR:Rel P c g σ a w)
  (h:runD P c.H0 ms [] σ fun log σ'=>chkAll c.H0 σ 0 anc log.reverse=true∧K σ'):(Code.region id ops true).wpIn (WF r) n P Q a w :=
 wpIn_region_draw fun t=>opsIn_of hd hQ _ _ _ (regionD_ops hmix hK hok haft hanc hlate hR h t)
end
end Go.Ab
namespace Go.Ab
open Go.RowKit
mutual
def V.within (l:List Nat):V→Bool
 | .ptr id _=>mem id l
 | .osl id _ _ _=>mem id l
 | .optr id _ _ _=>mem id l
 | .omap id=>mem id l
 | .bptr id=>mem id l
 | .agg cs=>V.withinL l cs
 | .nsl z _ _=>mem z l
 | .nsmap z _ _ _=>mem z l
 | .at_ z _=>mem z l
 | .tup cs=>V.withinL l cs
 | .fn _ cs=>V.withinL l cs
 | _=>true
def V.withinL (l:List Nat):List V→Bool
 | []=>true
 | x::r=>x.within l&&V.withinL l r
end
theorem hasL_iff {n:Nat}:∀{l:List V},V.hasL n l=true↔∃x∈l,x.has n=true
 | []=>by simp [V.hasL]
 | y::r=>by simp [V.hasL,hasL_iff (l:=r)]
theorem withinL_iff {l:List Nat}:∀{cs:List V},V.withinL l cs=true↔∀x∈cs,x.within l=true
 | []=>by simp [V.withinL]
 | y::r=>by simp [V.withinL,withinL_iff (cs:=r)]
theorem within_has {l:List Nat} {id:Nat}:∀{x:V},x.within l=true→x.has id=true→id∈l
 | .ptr i _,h,hh=>by
  simp only [V.within,V.has] at h hh
  rw [zR hh];exact mem_iff.1 h
 | .osl i _ _ _,h,hh=>by
  simp only [V.within,V.has] at h hh
  rw [zR hh];exact mem_iff.1 h
 | .optr i _ _ _,h,hh=>by
  simp only [V.within,V.has] at h hh
  rw [zR hh];exact mem_iff.1 h
 | .omap i,h,hh=>by
  simp only [V.within,V.has] at h hh
  rw [zR hh];exact mem_iff.1 h
 | .bptr i,h,hh=>by
  simp only [V.within,V.has] at h hh
  rw [zR hh];exact mem_iff.1 h
 | .nsl i _ _,h,hh=>by
  simp only [V.within,V.has] at h hh
  rw [zR hh];exact mem_iff.1 h
 | .nsmap i _ _ _,h,hh=>by
  simp only [V.within,V.has] at h hh
  rw [zR hh];exact mem_iff.1 h
 | .at_ i _,h,hh=>by
  simp only [V.within,V.has] at h hh
  rw [zR hh];exact mem_iff.1 h
 | .agg cs,h,hh=>by
  simp only [V.within,V.has] at h hh
  obtain ⟨x,hx,hxh⟩:=hasL_iff.1 hh
  exact within_has (withinL_iff.1 h x hx) hxh
 | .tup cs,h,hh=>by
  simp only [V.within,V.has] at h hh
  obtain ⟨x,hx,hxh⟩:=hasL_iff.1 hh
  exact within_has (withinL_iff.1 h x hx) hxh
 | .fn f cs,h,hh=>by
  simp only [V.within,V.has] at h hh
  obtain ⟨x,hx,hxh⟩:=hasL_iff.1 hh
  exact within_has (withinL_iff.1 h x hx) hxh
 | .bool _,_,hh|.int _ _,_,hh|.str _,_,hh|.nils,_,hh|.nilp,_,hh|.nilm,_,hh|.nilf,_,hh|.nili,_,hh|.sl _,_,hh|.eptr _ _,_,hh|.any,_,hh=>by simp [V.has] at hh
def blks (g:Gh) (H:Heap) (b:Nat):Prop:=∃id o,find id H=some o∧¬g.nil id∧g.ρ id=b
def ItStep (B:Nat→Prop) (W W':World):Prop :=
 W'.os=W.os∧W'.tape=W.tape∧W'.output=W.output∧W.heap.size≤W'.heap.size∧∀b,b<W.heap.size→¬B b→W'.heap[b]?=W.heap[b]?
def ItKeep (g:Gh) (H:Heap) (W W':World):Prop:=Keep g.S W W'∧∀b,blks g H b→W'.heap[b]?=W.heap[b]?
def AIter (P:Program) (gf:Nat) (caps:List V) (Hc:Heap) (xss:List (List V)):Prop :=
 callable P gf=true∧∀(g:Gh) (w:World) (lb:Array Value),HRel P g w Hc→lb.size=caps.length→(∀(i:Nat) (x:V),caps[i]?=some x→VR g w (lb.getD i undef) x) →
  ∀ (l:Nat) (J:Nat→World→Prop) (Jx:World→Prop),
   (∀k W W',J k W→ItStep (blks g Hc) W W'→J k W')→(∀W W',Jx W→ItStep (blks g Hc) W W'→Jx W') →
   (∀k xs W vals,xss[k]?=some xs→vals.size=xs.length→(∀(i:Nat) (x:V),xs[i]?=some x→VR g W (vals.getD i undef) x)→J k W →
    YieldAt (WF none) 0 P l vals W fun e W'=>(e=.returned (.bool true)∧J (k+1) W'∧ItKeep g Hc W W')∨(e=.returned (.bool false)∧Jx W')) →
   J 0 w→CallsIn (WF none) 0 P gf (#[.func (.yield l) #[] #[]]++lb) w fun e W'=>(∃v,e=.returned v)∧(J xss.length W'∨Jx W')
structure Ctx.le (c c':Ctx):Prop where
 w0:c'.w0=c.w0
 g0:c'.g0=c.g0
 H0:c'.H0=c.H0
 nt:c'.nt=c.nt
 hm:c'.hm=c.hm
 gp:c'.gp=c.gp
 wp:c'.wp=c.wp
 kp:∃k,c'.kp=k++c.kp
 dfr:∃Ds:List Nat,c'.dfr=Ds.map (fun D=>{ target:=.collected D,args:=#[] })++c.dfr∧Ds.Nodup∧∀D∈Ds,(D,.deferred (some []))∈c'.kp∧c.free D
theorem Ctx.le.refl (c:Ctx):c.le c:=⟨rfl,rfl,rfl,rfl,rfl,rfl,rfl,⟨[],rfl⟩,⟨[],rfl,List.nodup_nil,fun _ h=>by cases h⟩⟩
theorem Ctx.le.trans {a b c:Ctx} (h:a.le b) (k:b.le c):a.le c:=by
 obtain ⟨k1,e1⟩:=h.kp
 obtain ⟨k2,e2⟩:=k.kp
 obtain ⟨D1,f1,n1,m1⟩:=h.dfr
 obtain ⟨D2,f2,n2,m2⟩:=k.dfr
 refine ⟨k.w0.trans h.w0,k.g0.trans h.g0,k.H0.trans h.H0,k.nt.trans h.nt,k.hm.trans h.hm,k.gp.trans h.gp,k.wp.trans h.wp,⟨k2++k1,by rw [e2,e1,List.append_assoc]⟩,
  ⟨D2++D1,by rw [f2,f1,List.map_append,List.append_assoc],List.nodup_append.2 ⟨n2,n1,fun x hx y hy e=>?_⟩,fun D hD=>?_⟩⟩
 ·subst e
  exact (m2 x hx).2 _ (m1 x hy).1
 ·rcases wD.1 hD with h|h
  ·exact ⟨(m2 D h).1,fun o ho=>(m2 D h).2 o (by rw [e1];exact zT _ ho)⟩
  ·exact ⟨by rw [e2];exact zT _ (m1 D h).1,(m1 D h).2⟩
section
variable {P:Program} {c c2:Ctx} {g:Gh} {σ:St} {a:Act} {w w':World}
theorem HRel.other {H:Heap} (h:HRel P g w H) (hf:Frm c g w H) (hsz:w.heap.size≤w'.heap.size) (hb:∀b,b<w.heap.size→c.free b→w'.heap[b]?=w.heap[b]?):HRel P g w' H∧Keep g.S w w':=by
 have hk:Keep g.S w w':=fun b hS=>hb b (h.lt b hS) (hf.sub b hS).2
 refine ⟨⟨fun id o ho=>(h.obj id o ho).mono (g':=g) hk (fun _ h=>h) (Gh.agree.refl _ _) (fun hn=>hb _ ((h.obj id o ho).block hn) (hf.own id o ho hn).2) (fun n _=>Gh.agree.refl _ _) hsz,h.inj,h.sep,fun b hS=>xC (h.lt b hS) hsz,
  fun w2 hw2=>h.tabs w2 fun b hS=>(hw2 b hS).trans (hk b hS)⟩,hk⟩
theorem Frm.other {H:Heap} {ds:List Deferred} (hf:Frm c g w H) (h:HRel P g w H) (hd:Dfr c w ds) (e0:c2.w0=c.w0) (eg:c2.g0=c.g0) (eh:c2.hm=c.hm) (hgp:∀b,c2.gp.S b→g.S b) (hpar:∀id o,find id c2.H0=some o→c2.gp.agree g id)
  (hos:w'.os=w.os) (ht:w'.tape=w.tape) (ho:w'.output=w.output) (hsz:w.heap.size≤w'.heap.size) (hb:∀b,b<w.heap.size→c.free b→w'.heap[b]?=w.heap[b]?) (hfr:∀b,b<w.heap.size→(g.S b∨blks g H b)→c.free b→c2.free b):Frm c2 g w' H:=by
 have hM:∀b,c2.M b↔c.M b:=fun b=>by simp only [Ctx.M,eg,eh]
 refine ⟨by rw [e0,hos,hf.os],by rw [e0,ht,hf.tape],by rw [e0,ho,hf.output],by rw [e0];exact wW hf.size hsz,fun b hlt hm=>?_,fun id o hi hn=>⟨?_,?_⟩,fun b hS=>?_,fun b hS=>⟨?_,?_⟩,hpar⟩
 ·rw [e0] at hlt ⊢
  refine (hb b (xC hlt hf.size) fun o hm'=>?_).trans (hf.old b hlt fun h=>hm ((hM b).2 h))
  rcases (hd.2.1 b o hm').1 with h1|h1
  ·omega
  ·exact hm ((hM b).2 h1)
 ·rw [e0,hM];exact (hf.own id o hi hn).1
 ·exact hfr _ ((h.obj id o hi).block hn) (.inr ⟨id,o,hi,hn,rfl⟩) (hf.own id o hi hn).2
 ·rcases hS with hS|hS
  ·rw [eg] at hS;exact hf.sup b (.inl hS)
  ·exact hgp b hS
 ·rw [e0,eg,hM];exact (hf.sub b hS).1
 ·exact hfr _ (h.lt b hS) (.inl hS) (hf.sub b hS).2
end
def pinH (H0:Heap) (pins:List Nat):Heap:=pins.map (fun i=>(i,Obj'.iter [] none))++H0
theorem find_pinH {H0:Heap} {id:Nat}:∀{pins:List Nat},(∃o,find id (pinH H0 pins)=some o)↔(id∈pins∨∃o,find id H0=some o)
 | []=>by simp [pinH]
 | p::r=>by
  have ih:=find_pinH (H0:=H0) (id:=id) (pins:=r)
  simp only [pinH] at ih
  simp only [pinH,wP,xZ,find]
  cases hb:Nat.beq id p with
  | true=>simp [zR hb]
  | false =>
   have:id≠p:=fun e=>by rw [e,wY] at hb;cases hb
   simp only [vB,ih,wO,this,false_or]
def putPs:List Nat→List V→List (Nat×V)→List (Nat×V)
 | p::ps,x::xs,e=>putPs ps xs (put p x e)
 | _,_,e=>e
def envIn (pins:List Nat):List (Nat×V)→Bool
 | []=>true
 | (_,x)::r=>x.within pins&&envIn pins r
theorem envIn_find {pins:List Nat} {s:Nat} {x:V}:∀{e:List (Nat×V)},envIn pins e=true→find s e=some x→x.within pins=true
 | (n,y)::r,h,hf=>by
  simp only [envIn,x4] at h
  simp only [find] at hf
  cases hb:Nat.beq s n with
  | true=>rw [hb] at hf;cases hf;exact h.1
  | false=>rw [hb] at hf;exact envIn_find h.2 hf
def EnvOK (nt:Nat) (g:Gh) (w:World) (tmps:Array Value) (e:List (Nat×V)):Prop:=∀s x,find s e=some x→s<nt∧VR g w (tmps.getD s undef) x
theorem EnvOK.puts {nt:Nat} {g:Gh} {w:World}:∀{ps:List Nat} {xs:List V} {vs:List Value} {tmps:Array Value} {e:List (Nat×V)},EnvOK nt g w tmps e→tmps.size=nt→(∀p∈ps,p<nt)→xs.length=vs.length →
  (∀(i:Nat) (x:V),xs[i]?=some x→VR g w ((vs[i]?).getD undef) x) →
  EnvOK nt g w ((ps.zip vs).foldl (fun t (p,v)=>t.setIfInBounds p v) tmps) (putPs ps xs e)∧((ps.zip vs).foldl (fun t (p,v)=>t.setIfInBounds p v) tmps).size=nt
 | [],xs,vs,tmps,e,h,hs,_,_,_=>by cases xs<;>exact ⟨h,hs⟩
 | p::ps,[],[],tmps,e,h,hs,_,_,_=>⟨h,hs⟩
 | p::ps,x::xs,v::vs,tmps,e,h,hs,hp,hl,hv=>by
  simp only [putPs,List.zip_cons_cons,List.foldl_cons]
  refine EnvOK.puts (fun s y hy=>?_) (by simp [hs]) (fun q hq=>hp q (z7 _ hq)) (by simpa using hl) fun i y hy=>by simpa using hv (i+1) y (by simpa using hy)
  have hpn:=hp p xE
  rw [find_put] at hy
  by_cases e1:s=p
  ·subst e1
   simp at hy;subst hy
   refine ⟨hpn,?_⟩
   have:s<tmps.size:=by omega
   simpa [zC,this] using hv 0 x rfl
  ·simp only [e1,if_false] at hy
   obtain ⟨h1,h2⟩:=h s y hy
   have hne:¬p=s:=fun e=>e1 e.symm
   exact ⟨h1,by simpa [zC,zA hne] using h2⟩
end Go.Ab
namespace Go.Ab
open Go.RowKit
inductive MC where
 | skip
 | ret
 | exit (id:Nat)
 | reg (ms:List MOp)
 | regI (its:List It)
 | regD (ms:List MOp) (aft anc:List (List Nat))
 | seq (a b:MC)
 | cut (a b:MC)
 | cond (c:Opd) (t e:MC)
 | block (id:Nat) (b:MC)
 | loop (b:MC)
 | note (n:Note) (b:MC)
 | rngF (g:Opd) (ps:List Nat) (a b:MC)
 | no
 | hnote (T:St→(St→Prop)→Prop) (b:MC)
def allLt (n:Nat):List Nat→Bool
 | []=>true
 | x::r=>Nat.blt x n&&allLt n r
theorem allLt_lt {n:Nat}:∀{l:List Nat},allLt n l=true→∀p∈l,p<n
 | x::r,h,p,hp=>by
  simp only [allLt,x4] at h
  rcases wO.1 hp with e|hp
  ·subst e;have:=h.1;simp [Nat.blt] at this;omega
  ·exact allLt_lt h.2 p hp
def MC.flat:MC→Bool
 | .rngF _ _ _ _=>false
 | .hnote _ _=>false
 | .seq a b|.cut a b=>a.flat&&b.flat
 | .cond _ t e=>t.flat&&e.flat
 | .block _ b|.loop b|.note _ b=>b.flat
 | _=>true
def MC.nh:MC→Bool
 | .hnote _ _=>false
 | .seq a b|.cut a b=>a.nh&&b.nh
 | .cond _ t e=>t.nh&&e.nh
 | .block _ b|.loop b|.note _ b=>b.nh
 | _=>true
def MC.ok (P:Program) (nt:Nat):MC→Code→Bool
 | .note _ b,c=>b.ok P nt c
 | .hnote _ b,c=>b.ok P nt c
 | .no,_=>true
 | .skip,.skip=>true
 | .ret,.ret=>true
 | .exit i,.exit j=>Nat.beq i j
 | .reg ms,.region _ ops draw=>!draw&&ops.toList.all notDefer&&mopsOK P nt ops ms ops.toList
 | .regI its,.region _ ops draw=>!draw&&ops.toList.all notDefer&&mopsOK P nt ops (itsOps its) ops.toList
 | .regD ms aft anc,.region _ ops draw=>draw&&ops.toList.all notDefer&&P.follows .mixedOrders&&mopsOK P nt ops ms ops.toList&&aftOK aft ops.toList&&ancOK anc 0 aft anc&&lateOK ms ms anc
 | .seq a b,.seq c d=>a.ok P nt c&&b.ok P nt d
 | .cut a b,.seq c d=>a.ok P nt c&&b.ok P nt d
 | .cond x t e,.cond y c d=>x.ok y&&t.ok P nt c&&e.ok P nt d
 | .block i b,.block j c=>Nat.beq i j&&b.ok P nt c
 | .loop b,.loop c=>b.ok P nt c
 | .rngF x ps a b,.rangeFunc y qs c d=>x.ok y&&natsEq ps qs.toList&&allLt nt ps&&a.flat&&b.flat&&a.ok P nt c&&b.ok P nt d
 | _,_=>false
def cslot (c:Opd) (b:Bool) (σ:St):St :=
 match c with
 | .t s=>⟨put s (.bool b) σ.env,σ.heap⟩
 | _=>σ
def MWP (P:Program) (H0:Heap):MC→(St→Prop)→(Nat→St→Prop)→(St→Prop)→St→Prop
 | .skip,K,_,_,σ=>K σ
 | .ret,_,_,R,σ=>R σ
 | .exit id,_,X,_,σ=>X id σ
 | .reg ms,K,_,_,σ=>runN P H0 ms σ K
 | .regI its,K,_,_,σ=>runI P H0 its σ K
 | .regD ms _ anc,K,_,_,σ=>runD P H0 ms [] σ fun log σ'=>chkAll H0 σ 0 anc log.reverse=true∧K σ'
 | .seq a b,K,X,R,σ=>MWP P H0 a (fun σ'=>MWP P H0 b K X R σ') X R σ
 | .cut a b,K,X,R,σ=>Lk (∃(α:Type) (I:α→St) (p:α→Prop) (ns:List Note),MWP P H0 a (fun σ'=>Lk (stepNs H0 ns σ' fun σ'=>∃y,p y∧SubSt (I y) σ')) X R σ∧∀y,p y→factsSt (I y)→MWP P H0 b K X R (I y))
 | .cond c t e,K,X,R,σ=>match c.ev σ.env with
  | .bool b=>gfork b true (MWP P H0 t K X R (cslot c true σ)) (MWP P H0 e K X R (cslot c false σ))
  | _=>False
 | .block id b,K,X,R,σ=>MWP P H0 b K (fun i σ'=>bif Nat.beq i id then K σ' else X i σ') R σ
 | .loop b,K,X,R,σ=>Lk (∃(α:Type) (I:α→St) (p:α→Prop) (μ:α→Nat) (ns:List Note),(stepNs H0 ns σ fun σ'=>∃x,p x∧SubSt (I x) σ') ∧
   ∀x,p x→factsSt (I x)→MWP P H0 b (fun σ'=>Lk (stepNs H0 ns σ' fun σ'=>∃y,p y∧μ y<μ x∧SubSt (I y) σ')) X R (I x))
 | .note n b,K,X,R,σ=>stepNote H0 n σ fun σ'=>MWP P H0 b K X R σ'
 | .rngF s ps a b,K,X,R,σ=>match s.ev σ.env with
  | .fn (.func gf) caps=>Lk (∃(Hc:Heap) (xss:List (List V)) (pins:List Nat) (α:Type) (I:Nat→α→Heap) (p:Nat→α→Prop) (ns:List Note),
    AIter P gf caps Hc xss∧SubSt ⟨[],Hc⟩ σ∧envIn pins σ.env=true∧(∀xs∈xss,xs.length=ps.length∧V.withinL [] xs=true)∧(∃x,p 0 x∧SubSt ⟨[],I 0 x⟩ σ∧∀q∈Hc,find q.1 (I 0 x)=none) ∧
    (∀k x xs,xss[k]?=some xs→p k x→factsH (I k x)→MWP P (pinH H0 pins) a (fun σ1=>MWP P (pinH H0 pins) b (fun σ'=>Lk (stepNs (pinH H0 pins) ns σ' fun σ'=>∃y,p (k+1) y∧SubSt ⟨[],I (k+1) y⟩ σ'))
     (fun i σ'=>X i ⟨σ.env,σ'.heap⟩) (fun σ'=>R ⟨σ.env,σ'.heap⟩) σ1) (fun _ _=>False) (fun _=>False) ⟨putPs ps xs σ.env,I k x⟩) ∧
    (∀x,p xss.length x→K ⟨σ.env,I xss.length x⟩))
  | _=>False
 | .no,_,_,_,_=>False
 | .hnote T b,K,X,R,σ=>T σ fun σ'=>MWP P H0 b K X R σ'
section
variable {P:Program} {c:Ctx}
theorem exists_least (p:Nat→Prop) (h:∃n,p n):∃n,p n∧∀m,p m→n≤m:=by
 obtain ⟨n,hn⟩:=h
 induction n using Nat.strongRecOn with
 | _ n ih =>
  by_cases hm:∃m,m<n∧p m
  ·obtain ⟨m,h1,h2⟩:=hm
   exact ih m h1 h2
  ·exact ⟨n,hn,fun m hp=>Nat.le_of_not_lt fun hlt=>hm ⟨m,hlt,hp⟩⟩
open Classical in
theorem wpIn_loop' {F:Fence} {n:Nat} {Q:Exit→Act→World→Prop} {body:Code} {α:Type} (I:α→Act→World→Prop) (μ:α→Nat) {a:Act} {w:World} (h0:∃x,I x a w)
  (round:∀x a w,I x a w→body.wpIn F n P (Exit.then (fun a' w'=>∃y,I y a' w'∧μ y<μ x) Q) a w):(Code.loop body).wpIn F n P Q a w:=by
 let p:Act→World→Nat→Prop:=fun a w n=>∃x,I x a w∧μ x=n
 let m:Act→World→Nat:=fun a w=>if h:∃n,p a w n then Classical.choose (exists_least _ h) else 0
 refine wpIn_loop (fun a w=>∃x,I x a w) m h0 fun a w hx=>?_
 have hex:∃n,p a w n:=by obtain ⟨x,hx⟩:=hx;exact ⟨_,x,hx,rfl⟩
 have hm:m a w=Classical.choose (exists_least _ hex):=by simp [m,hex]
 obtain ⟨⟨x,hI,hμ⟩,_⟩:=Classical.choose_spec (exists_least _ hex)
 refine wpIn_mono (round x a w hI) fun e a' w' hq=>?_
 cases e with
 | normal =>
  obtain ⟨y,hy,hlt⟩:=hq
  refine ⟨⟨y,hy⟩,?_⟩
  have hex':∃n,p a' w' n:=⟨_,y,hy,rfl⟩
  have hm':m a' w'=Classical.choose (exists_least _ hex'):=by simp [m,hex']
  have:=(Classical.choose_spec (exists_least _ hex')).2 (μ y) ⟨y,hy,rfl⟩
  rw [hm',hm,←hμ]
  omega
 | _=>exact hq
theorem cslot_rel {g:Gh} {σ:St} {a:Act} {w:World} {x:Opd} {b:Bool} (h:Rel P c g σ a w) (hx:x.ev σ.env=.bool b):cslot x b σ=σ:=by
 cases x with
 | t s=>simp only [cslot,put_same (get_bool hx)]
 | _=>rfl
def HNOK (P:Program) (c:Ctx):MC→Prop
 | .hnote T b=>(∀(K:St→Prop) (c':Ctx) (g:Gh) (σ:St) (a:Act) (w:World),c.le c'→Rel P c' g σ a w→T σ K→∃g' σ',K σ'∧Rel P c' g' σ' a w)∧HNOK P c b
 | .seq a b|.cut a b=>HNOK P c a∧HNOK P c b
 | .cond _ t e=>HNOK P c t∧HNOK P c e
 | .block _ b|.loop b|.note _ b=>HNOK P c b
 | _=>True
theorem HNOK.of_nh:∀{mc:MC},mc.nh=true→HNOK P c mc
 | .hnote _ _,h=>by cases h
 | .seq a b,h=>by simp only [MC.nh,x4] at h;exact ⟨HNOK.of_nh h.1,HNOK.of_nh h.2⟩
 | .cut a b,h=>by simp only [MC.nh,x4] at h;exact ⟨HNOK.of_nh h.1,HNOK.of_nh h.2⟩
 | .cond _ t e,h=>by simp only [MC.nh,x4] at h;exact ⟨HNOK.of_nh h.1,HNOK.of_nh h.2⟩
 | .block _ b,h=>by simp only [MC.nh] at h;exact HNOK.of_nh (mc:=b) h
 | .loop b,h=>by simp only [MC.nh] at h;exact HNOK.of_nh (mc:=b) h
 | .note _ b,h=>by simp only [MC.nh] at h;exact HNOK.of_nh (mc:=b) h
 | .skip,_|.ret,_|.exit _,_|.reg _,_|.regI _,_|.regD _ _ _,_|.rngF _ _ _ _,_|.no,_=>trivial
theorem MC.flat_nh:∀{mc:MC},mc.flat=true→mc.nh=true
 | .hnote _ _,h=>by cases h
 | .seq a b,h=>by simp only [MC.flat,x4] at h;simp only [MC.nh,MC.flat_nh h.1,MC.flat_nh h.2,wS]
 | .cut a b,h=>by simp only [MC.flat,x4] at h;simp only [MC.nh,MC.flat_nh h.1,MC.flat_nh h.2,wS]
 | .cond _ t e,h=>by simp only [MC.flat,x4] at h;simp only [MC.nh,MC.flat_nh h.1,MC.flat_nh h.2,wS]
 | .block _ b,h=>by simp only [MC.flat] at h;simp only [MC.nh,MC.flat_nh (mc:=b) h]
 | .loop b,h=>by simp only [MC.flat] at h;simp only [MC.nh,MC.flat_nh (mc:=b) h]
 | .note _ b,h=>by simp only [MC.flat] at h;simp only [MC.nh,MC.flat_nh (mc:=b) h]
 | .skip,_|.ret,_|.exit _,_|.reg _,_|.regI _,_|.regD _ _ _,_|.rngF _ _ _ _,_|.no,_=>rfl
theorem HNOK.mono {c':Ctx} (hl:c.le c'):∀{mc:MC},HNOK P c mc→HNOK P c' mc
 | .hnote _ b,h=>⟨fun K c2 g σ a w h2=>h.1 K c2 g σ a w (hl.trans h2),HNOK.mono hl h.2⟩
 | .seq a b,h=>⟨HNOK.mono hl h.1,HNOK.mono hl h.2⟩
 | .cut a b,h=>⟨HNOK.mono hl h.1,HNOK.mono hl h.2⟩
 | .cond _ t e,h=>⟨HNOK.mono hl h.1,HNOK.mono hl h.2⟩
 | .block _ b,h=>HNOK.mono (mc:=b) hl h
 | .loop b,h=>HNOK.mono (mc:=b) hl h
 | .note _ b,h=>HNOK.mono (mc:=b) hl h
 | .skip,_|.ret,_|.exit _,_|.reg _,_|.regI _,_|.regD _ _ _,_|.rngF _ _ _ _,_|.no,_=>trivial
def Sound (P:Program) (r:Option Nat) (mc:MC):Prop :=
 ∀ ⦃n:Nat⦄ ⦃c:Ctx⦄ ⦃code:Code⦄ ⦃Q:Exit→Act→World→Prop⦄ ⦃K:St→Prop⦄ ⦃X:Nat→St→Prop⦄ ⦃R:St→Prop⦄ ⦃g:Gh⦄ ⦃σ:St⦄ ⦃a:Act⦄ ⦃w:World⦄,HNOK P c mc→(∀a w,¬Q .outgrown a w)→mc.ok P c.nt code=true→Rel P c g σ a w→MWP P c.H0 mc K X R σ →
  (∀c' σ g a w,c.le c'→K σ→Rel P c' g σ a w→Q .normal a w)→(∀c' i σ g a w,c.le c'→X i σ→Rel P c' g σ a w→Q (.exit i) a w)→(∀c' σ g a w,c.le c'→R σ→Rel P c' g σ a w→Q .ret a w)→code.wpIn (WF r) n P Q a w
section
variable {g:Gh} {w w':World} {H:Heap} {c c2 c':Ctx} {ds:List Deferred}
theorem other3 (h:HRel P g w H) (hf:Frm c g w H) (hd:Dfr c w ds) (e0:c2.w0=c.w0) (eg:c2.g0=c.g0) (eh:c2.hm=c.hm) (hgp:∀b,c2.gp.S b→g.S b) (hpar:∀id o,find id c2.H0=some o→c2.gp.agree g id)
  (hos:w'.os=w.os) (ht:w'.tape=w.tape) (ho:w'.output=w.output) (hsz:w.heap.size≤w'.heap.size) (hb:∀b,b<w.heap.size→c.free b→w'.heap[b]?=w.heap[b]?) (hfr:∀b,b<w.heap.size→(g.S b∨blks g H b)→c.free b→c2.free b) :
  HRel P g w' H∧Frm c2 g w' H∧Keep g.S w w' :=
 ⟨(h.other hf hsz hb).1,hf.other h hd e0 eg eh hgp hpar hos ht ho hsz hb hfr,(h.other hf hsz hb).2⟩
theorem le_back (hl:c.le c') (h:HRel P g w H) (hf:Frm c' g w H) (hd:Dfr c' w ds):Frm c g w H∧Dfr c w c.dfr:=by
 obtain ⟨k,ek⟩:=hl.kp
 have hfr:∀b,c'.free b→c.free b:=fun b hb o ho=>hb o (by rw [ek];exact zT _ ho)
 refine ⟨hf.other h hd hl.w0.symm hl.g0.symm hl.hm.symm (fun b hS=>hf.sup b (.inr (by rw [hl.gp];exact hS))) (fun id o ho=>?_) rfl rfl rfl (w9 _) (fun _ _ _=>rfl) (fun b _ _=>hfr b),rfl,fun b o ho=>?_,?_⟩
 ·rw [←hl.gp];exact hf.par id o (by rw [hl.H0];exact ho)
 ·have:=hd.2.1 b o (by rw [ek];exact zT _ ho)
  simp only [Ctx.M,hl.w0,hl.hm,hl.g0] at this ⊢;exact this
 ·have:=hd.2.2
  rwa [hl.gp,hl.wp] at this
end
theorem find_mem {α:Type} {n:Nat} {x:α}:∀{l:List (Nat×α)},find n l=some x→(n,x)∈l
 | (m,y)::r,h=>by
  simp only [find] at h
  cases hb:Nat.beq n m with
  | true=>rw [hb] at h;cases h;rw [zR hb];exact xE
  | false=>rw [hb] at h;exact z7 _ (find_mem h)
open Classical in
theorem blks_list (g:Gh) (Hc:Heap):∃bl:List Nat,∀b,b∈bl↔blks g Hc b:=by
 have key:∀l:List Nat,∃bl:List Nat,∀b,b∈bl↔∃id,id∈l∧(∃o,find id Hc=some o)∧¬g.nil id∧g.ρ id=b:=fun l=>by
  induction l with
  | nil=>exact ⟨[],fun b=>by simp⟩
  | cons i r ih =>
   obtain ⟨bl,h⟩:=ih
   by_cases hc:(∃o,find i Hc=some o)∧¬g.nil i
   ·refine ⟨g.ρ i::bl,fun b=>?_⟩
    rw [wO,h]
    constructor
    ·rintro (rfl|⟨id,h1,h2⟩)
     ·exact ⟨i,by simp,hc.1,hc.2,rfl⟩
     ·exact ⟨id,by simp [h1],h2⟩
    ·rintro ⟨id,h1,h2,h3,h4⟩
     rcases wO.1 h1 with rfl|h1
     ·exact .inl h4.symm
     ·exact .inr ⟨id,h1,h2,h3,h4⟩
   ·refine ⟨bl,fun b=>?_⟩
    rw [h]
    constructor
    ·rintro ⟨id,h1,h2⟩;exact ⟨id,by simp [h1],h2⟩
    ·rintro ⟨id,h1,h2,h3,h4⟩
     rcases wO.1 h1 with rfl|h1
     ·exact absurd ⟨h2,h3⟩ hc
     ·exact ⟨id,h1,h2,h3,h4⟩
 obtain ⟨bl,h⟩:=key (Hc.map (·.1))
 refine ⟨bl,fun b=>(h b).trans ⟨?_,?_⟩⟩
 ·rintro ⟨id,_,⟨o,h1⟩,h2,h3⟩;exact ⟨id,o,h1,h2,h3⟩
 ·rintro ⟨id,o,h1,h2,h3⟩;exact ⟨id,w4.2 ⟨(id,o),find_mem h1,rfl⟩,⟨o,h1⟩,h2,h3⟩
theorem rngF_sound (s:Opd) (ps:List Nat) (a b:MC) (ha:∀l,a.flat=true→Sound P (some l) a) (hb:∀l,b.flat=true→Sound P (some l) b):Sound P none (.rngF s ps a b):=by
 intro n c code Q K X R g σ ac w hN hQ hok hR h hK hX hT
 cases code<;>try (simp [MC.ok] at hok;done)
 rename_i y qs casg cbody
 simp only [MC.ok,x4] at hok
 obtain ⟨⟨⟨⟨⟨⟨h1,h2⟩,h3⟩,h4⟩,h5⟩,h6⟩,h7⟩:=hok
 have hps:=natsEq_eq h2
 simp only [MWP] at h
 split at h
 case h_2=>exact h.elim
 rename_i gf caps hev
 have hv:=Opd.vr hR h1
 rw [hev] at hv
 obtain ⟨lb,ev,hlb,hvl⟩:=hv.fn_inv
 obtain ⟨Hc,xss,pins,α,I,p,ns,⟨hcb,hit⟩,hsc,hpin,hxs,⟨x0,hp0,hs0,hdis⟩,round,hdone⟩:=Lk.out h
 have hRc:=hR.subSt hsc
 obtain ⟨bl,hbl⟩:=blks_list g Hc
 have hblw:∀k,k∈bl→k<w.heap.size∧c.free k∧(c.w0.heap.size≤k∨c.M k)∧¬g.S k:=fun k hk=>by
  obtain ⟨id,o,h1,h2,rfl⟩:=(hbl k).1 hk
  exact ⟨(hRc.hp.obj id o h1).block h2,(hRc.fr.own id o h1 h2).2,(hRc.fr.own id o h1 h2).1,hRc.hp.sep id o h1 h2⟩
 refine wpIn_rangeFunc ?_
 intro fn _
 obtain ⟨rec,hrec⟩:∃rec:LoopState→Option Code→Loop,rec=fun st pe=>{ state:=st,pending:=pe,fn,tmps:=ac.tmps,params:=qs,assign:=casg,body:=cbody,defers:=w.heap.size }:=⟨_,rfl⟩
 obtain ⟨W1,hW1⟩:∃W1,(w.alloc (.deferred (some []))).alloc (.loop (rec .ready none))=W1:=⟨_,rfl⟩
 have hsz1:W1.heap.size=w.heap.size+2:=by rw [←hW1];simp
 have hL1:W1.heap[w.heap.size+1]?=some (.loop (rec .ready none)):=by
  rw [←hW1];have:=World.alloc_heap_new (w.alloc (.deferred (some []))) (.loop (rec .ready none));rwa [World.size_alloc] at this
 have hK1:W1.heap[w.heap.size]?=some (.deferred (some [])):=by
  rw [←hW1];exact (Below.heap_alloc _ _ _ (by simp)).trans (World.alloc_heap_new w _)
 have hO1:∀k,k<w.heap.size→W1.heap[k]?=w.heap[k]?:=fun k hk=>by
  rw [←hW1];exact (Below.heap_alloc _ _ _ (by simp;omega)).trans (Below.heap_alloc _ _ _ hk)
 obtain ⟨cJ,hcJ⟩:∃cJ:(Nat→Obj)→LoopState→Option Code→Ctx,cJ=fun cs st pe=>{ c with H0:=pinH c.H0 pins,gp:=g,wp:=w,dfr:=[],kp:=(w.heap.size+1,.loop (rec st pe))::(w.heap.size,.deferred (some []))::(bl.map (fun b=>(b,cs b))++c.kp) }:=⟨_,rfl⟩
 have hkpw:∀k o,(k,o)∈c.kp→k<w.heap.size:=fun k o ho=>(zF.1 (hR.dfr.2.1 k o ho).2).1
 have hkpt:∀(cs:Nat→Obj) k o,(k,o)∈(w.heap.size,Obj.deferred (some []))::(bl.map (fun b=>(b,cs b))++c.kp)→k≠w.heap.size+1:=fun cs k o ho=>by
  rcases wO.1 ho with e|ho
  ·cases e;omega
  rcases wD.1 ho with ho|ho
  ·obtain ⟨q,hq,e⟩:=w4.1 ho
   cases e;have:=(hblw k hq).1;omega
  ·have:=hkpw k o ho;omega
 have hkp2:∀(cs:Nat→Obj) k o,(k,o)∈(w.heap.size,Obj.deferred (some []))::c.kp→(k,o)∈(w.heap.size,Obj.deferred (some []))::(bl.map (fun b=>(b,cs b))++c.kp):=fun cs k o ho=>by
  rcases wO.1 ho with e|ho
  ·rw [e];exact xE
  ·exact z7 _ (zT _ ho)
 have hfree:∀cs st pe k,(cJ cs st pe).free k↔(k≠w.heap.size+1∧k≠w.heap.size∧k∉bl∧c.free k):=fun cs st pe k=>by
  rw [hcJ]
  constructor
  ·intro h
   exact ⟨fun e=>h _ (by rw [e];exact xE),fun e=>h _ (by rw [e];exact z7 _ xE),fun e=>h (cs k) (z7 _ (z7 _ (List.mem_append_left _ (w4.2 ⟨k,e,rfl⟩)))),fun o ho=>h o (z7 _ (z7 _ (zT _ ho)))⟩
  ·rintro ⟨e1,e2,e4,e3⟩ o ho
   rcases wO.1 ho with e|ho
   ·exact e1 (by cases e;rfl)
   rcases wO.1 ho with e|ho
   ·exact e2 (by cases e;rfl)
   rcases wD.1 ho with ho|ho
   ·obtain ⟨q,hq,e⟩:=w4.1 ho
    cases e;exact e4 hq
   ·exact e3 o ho
 have hsupJ:∀{cs st pe gb W HH},Frm (cJ cs st pe) gb W HH→∀k,g.S k→gb.S k:=fun hf k hS=>hf.sup k (.inr (by rw [hcJ];exact hS))
 have hparJ:∀{cs st pe gb W HH},Frm (cJ cs st pe) gb W HH→∀cs' st' pe' id o,find id (cJ cs' st' pe').H0=some o→(cJ cs' st' pe').gp.agree gb id:=fun hf cs' st' pe' id o ho=>by
  have:=hf.par id o (by rw [hcJ] at ho ⊢;exact ho)
  rw [hcJ] at this ⊢;exact this
 have turn:∀{cs st pe gb W HH} (st':LoopState) (pe':Option Code),HRel P gb W HH→Frm (cJ cs st pe) gb W HH→Dfr (cJ cs st pe) W [] →
   HRel P gb (W.putObj (w.heap.size+1) (.loop (rec st' pe'))) HH∧Frm (cJ cs st' pe') gb (W.putObj (w.heap.size+1) (.loop (rec st' pe'))) HH∧Dfr (cJ cs st' pe') (W.putObj (w.heap.size+1) (.loop (rec st' pe'))) []∧Keep gb.S W (W.putObj (w.heap.size+1) (.loop (rec st' pe'))):=by
  intro cs st pe gb W HH st' pe' hh hf hd
  obtain ⟨k1,k2,k3⟩:=other3 (c2:=cJ cs st' pe') (w':=W.putObj (w.heap.size+1) (.loop (rec st' pe'))) hh hf hd (by rw [hcJ]) (by rw [hcJ]) (by rw [hcJ]) (fun k hS=>hsupJ hf k (by rw [hcJ] at hS;exact hS)) (hparJ hf cs st' pe') rfl rfl rfl (by simp)
   (fun k _ hk=>World.putObj_heap_other ((hfree cs st pe k).1 hk).1) (fun k _ _ hk=>(hfree cs st' pe' k).2 ((hfree cs st pe k).1 hk))
  have hl:W.heap[w.heap.size+1]?=some (.loop (rec st pe)):=(hd.2.1 _ _ (by rw [hcJ];exact xE)).2
  refine ⟨k1,k2,⟨by rw [hcJ],fun k o ho=>?_,fun k hS=>?_⟩,k3⟩
  ·rw [hcJ] at ho
   rcases wO.1 ho with e|ho'
   ·cases e
    exact ⟨by have:=(hd.2.1 (w.heap.size+1) _ (by rw [hcJ];exact xE)).1;rw [hcJ] at this ⊢;exact this,World.putObj_heap_same (zF.1 hl).1⟩
   ·have hne:k≠w.heap.size+1:=hkpt cs k o ho'
    have:=hd.2.1 k o (by rw [hcJ];exact z7 _ ho')
    refine ⟨?_,(World.putObj_heap_other hne).trans this.2⟩
    have h0:=this.1
    rw [hcJ] at h0 ⊢;exact h0
  ·rw [hcJ] at hS
   have h0:=hd.2.2 k (by rw [hcJ];exact hS)
   refine (k3 k (hsupJ hf k hS)).trans ?_
   rw [hcJ] at h0 ⊢;exact h0
 obtain ⟨J,hJ⟩:∃J:Nat→World→Prop,J=fun k W=>∃cs gb y,p k y∧(⟨[],I k y⟩:St).good=true∧HRel P gb W (I k y)∧Frm (cJ cs .ready none) gb W (I k y)∧Dfr (cJ cs .ready none) W []:=⟨_,rfl⟩
 obtain ⟨Jx,hJx⟩:∃Jx:World→Prop,Jx=fun W=>∃cs gb HH jump,((jump=Code.ret∧R ⟨σ.env,HH⟩)∨∃i,jump=Code.exit i∧X i ⟨σ.env,HH⟩)∧HRel P gb W HH∧Frm (cJ cs .done (some jump)) gb W HH∧Dfr (cJ cs .done (some jump)) W []:=⟨_,rfl⟩
 have still:∀{cs st pe gb HH W W'},HRel P gb W HH→Frm (cJ cs st pe) gb W HH→Dfr (cJ cs st pe) W []→ItStep (blks g Hc) W W'→∃cs',HRel P gb W' HH∧Frm (cJ cs' st pe) gb W' HH∧Dfr (cJ cs' st pe) W' []:=by
  intro cs st pe gb HH W W' hh hf hd ⟨i1,i2,i3,i4,i5⟩
  obtain ⟨cs',hcs'⟩:∃cs':Nat→Obj,cs'=fun k=>(W'.heap[k]?).getD (.deferred none):=⟨_,rfl⟩
  have hfr:∀k,(cJ cs st pe).free k→(cJ cs' st pe).free k:=fun k h=>(hfree cs' st pe k).2 ((hfree cs st pe k).1 h)
  obtain ⟨k1,k2,k3⟩:=other3 (c2:=cJ cs' st pe) hh hf hd (by rw [hcJ]) (by rw [hcJ]) (by rw [hcJ]) (fun k hS=>hsupJ hf k (by rw [hcJ] at hS;exact hS)) (hparJ hf cs' st pe) i1 i2 i3 i4 (fun k hk hfk=>i5 k hk fun hb=>((hfree cs st pe k).1 hfk).2.2.1 ((hbl k).2 hb)) (fun k _ _ h=>hfr k h)
  have hW:∀k o,(k,o)∈(cJ cs st pe).kp→k<W.heap.size:=fun k o ho=>(zF.1 (hd.2.1 k o ho).2).1
  refine ⟨cs',k1,k2,by rw [hcJ],fun k o ho=>?_,fun k hS=>(k3 k (hsupJ hf k (by rw [hcJ] at hS;exact hS))).trans (by have:=hd.2.2 k (by rw [hcJ] at hS ⊢;exact hS);rw [hcJ] at this ⊢;exact this)⟩
  have out:k∉bl→(k,o)∈(cJ cs st pe).kp→((cJ cs' st pe).w0.heap.size≤k∨(cJ cs' st pe).M k)∧W'.heap[k]?=some o:=fun hk hm=>by
   have:=hd.2.1 k o hm
   refine ⟨?_,(i5 k (hW k o hm) fun hb=>hk ((hbl k).2 hb)).trans this.2⟩
   have h0:=this.1
   rw [hcJ] at h0 ⊢;exact h0
  rw [hcJ] at ho
  rcases wO.1 ho with e|ho
  ·cases e
   exact out (fun hk=>by have:=(hblw _ hk).1;omega) (by rw [hcJ];exact xE)
  rcases wO.1 ho with e|ho
  ·cases e
   exact out (fun hk=>by have:=(hblw _ hk).1;omega) (by rw [hcJ];exact z7 _ xE)
  rcases wD.1 ho with ho|ho
  ·obtain ⟨q,hq,e⟩:=w4.1 ho
   cases e
   have hlt:=hW k (cs k) (by rw [hcJ];exact z7 _ (z7 _ (List.mem_append_left _ (w4.2 ⟨k,hq,rfl⟩))))
   have hlt':k<W'.heap.size:=by omega
   refine ⟨by rw [hcJ];exact (hblw k hq).2.2.1,?_⟩
   simp only [hcs',zI hlt',xS]
  ·exact out (fun hk=>(hblw _ hk).2.1 o ho) (by rw [hcJ];exact z7 _ (z7 _ (zT _ ho)))
 have fin:∀{cs st pe gb HH W} (o:Obj),HRel P gb W HH→Frm (cJ cs st pe) gb W HH→Dfr (cJ cs st pe) W [] →
   ∃c2,c.le c2∧Rel P c2 gb ⟨σ.env,HH⟩ { ac with defers:=[{ target:=.collected w.heap.size,args:=#[] }]++ac.defers } (W.putObj (w.heap.size+1) o):=by
  intro cs st pe gb HH W o hh hf hd
  refine ⟨{ c with dfr:={ target:=.collected w.heap.size,args:=#[] }::c.dfr,kp:=(w.heap.size,.deferred (some []))::c.kp },⟨rfl,rfl,rfl,rfl,rfl,rfl,rfl,⟨[_],rfl⟩,⟨[w.heap.size],rfl,by simp,fun D hD=>?_⟩⟩,?_⟩
  ·simp at hD;subst hD
   exact ⟨xE,fun o ho=>by have:=hkpw _ o ho;omega⟩
  have hgS:∀k,c.gp.S k→g.S k:=fun k hS=>hR.fr.sup k (.inr hS)
  obtain ⟨k1,k2,k3⟩:=other3 (c2:={ c with dfr:={ target:=.collected w.heap.size,args:=#[] }::c.dfr,kp:=(w.heap.size,.deferred (some []))::c.kp }) (w':=W.putObj (w.heap.size+1) o) hh hf hd (by rw [hcJ]) (by rw [hcJ]) (by rw [hcJ])
   (fun k hS=>hsupJ hf k (hgS k hS)) (fun id o1 ho=>(hR.fr.par id o1 ho).trans (by
    obtain ⟨o2,h2⟩:=(find_pinH (H0:=c.H0) (pins:=pins) (id:=id)).2 (.inr ⟨o1,ho⟩)
    have:=hparJ hf cs st pe id o2 (by rw [hcJ];exact h2)
    rw [hcJ] at this;exact this)) rfl rfl rfl (by simp) (fun k _ hk=>World.putObj_heap_other ((hfree cs st pe k).1 hk).1)
   (fun k _ _ hk o1 ho=>by
    obtain ⟨_,e2,_,e3⟩:=(hfree cs st pe k).1 hk
    rcases wO.1 ho with e|ho
    ·cases e;exact e2 rfl
    ·exact e3 o1 ho)
  have hkS:Keep g.S w (W.putObj (w.heap.size+1) o):=fun k hS=>(k3 k (hsupJ hf k hS)).trans (by have:=hd.2.2;rw [hcJ] at this;exact this k hS)
  refine ⟨hR.size,⟨by rw [hR.dfr.1];rfl,fun k o1 ho=>?_,fun k hS=>(hkS k (hgS k hS)).trans (hR.dfr.2.2 k hS)⟩,fun t x hx=>?_,k1,k2⟩
  ·have hne:k≠w.heap.size+1:=by
    rcases wO.1 ho with e|ho'
    ·cases e;omega
    ·have:=hkpw k o1 ho';omega
   have:=hd.2.1 k o1 (by rw [hcJ];exact z7 _ (hkp2 cs k o1 ho))
   refine ⟨?_,(World.putObj_heap_other hne).trans this.2⟩
   have h0:=this.1
   rw [hcJ] at h0;exact h0
  ·obtain ⟨q1,q2⟩:=hR.env t x hx
   refine ⟨q1,q2.mono hkS (hsupJ hf) fun id hid=>?_⟩
   obtain ⟨o2,h2⟩:=(find_pinH (H0:=c.H0) (pins:=pins) (id:=id)).2 (.inl (within_has (envIn_find hpin hx) hid))
   have:=hparJ hf cs st pe id o2 (by rw [hcJ];exact h2)
   rw [hcJ] at this;exact this
 obtain ⟨cs0,hcs0⟩:∃cs0:Nat→Obj,cs0=fun k=>(W1.heap[k]?).getD (.deferred none):=⟨_,rfl⟩
 have h0:J 0 W1:=by
  rw [hJ]
  have hR0:HRel P g w (I 0 x0)∧Frm c g w (I 0 x0):=by
   have:=hR.subSt hs0
   exact ⟨this.hp,this.fr⟩
  have hnb:∀k,(g.S k∨blks g (I 0 x0) k)→k∉bl:=fun k hk hb=>by
   rcases hk with hk|⟨id,o,h1,h2,rfl⟩
   ·exact (hblw k hb).2.2.2 hk
   ·obtain ⟨id',o',h3,h4,h5⟩:=(hbl _).1 hb
    have e:=hR.hp.inj id' id o' o (subHp_find hsc.2.2 h3) (subHp_find hs0.2.2 h1) h4 h2 h5
    subst e
    have:=hdis (id',o') (find_mem h3)
    rw [h1] at this;cases this
  obtain ⟨k1,k2,k3⟩:=other3 (c2:=cJ cs0 .ready none) (w':=W1) hR0.1 hR0.2 hR.dfr (by rw [hcJ]) (by rw [hcJ]) (by rw [hcJ]) (fun k hS=>by rw [hcJ] at hS;exact hS) (fun id o _=>by rw [hcJ];exact Gh.agree.refl g id) (by rw [←hW1];rfl) (by rw [←hW1];rfl) (by rw [←hW1];rfl) (by omega)
   (fun k hk _=>hO1 k hk) (fun k hk hb hf=>(hfree _ _ _ k).2 ⟨by omega,by omega,hnb k hb,hf⟩)
  refine ⟨cs0,g,x0,hp0,hs0.1,k1,k2,by rw [hcJ],fun k o ho=>?_,fun k hS=>?_⟩
  ·rw [hcJ] at ho
   have hle:=hR.fr.size
   rcases wO.1 ho with e|ho
   ·cases e;exact ⟨.inl (by rw [hcJ];show c.w0.heap.size≤_;omega),hL1⟩
   rcases wO.1 ho with e|ho
   ·cases e;exact ⟨.inl (by rw [hcJ];exact hle),hK1⟩
   rcases wD.1 ho with ho|ho
   ·obtain ⟨q,hq,e⟩:=w4.1 ho
    cases e
    have hlt:=(hblw k hq).1
    refine ⟨by rw [hcJ];exact (hblw k hq).2.2.1,?_⟩
    have hlt':k<W1.heap.size:=by omega
    simp only [hcs0,zI hlt',xS]
   ·refine ⟨by rw [hcJ];exact (hR.dfr.2.1 k o ho).1,(hO1 k (hkpw k o ho)).trans (hR.dfr.2.1 k o ho).2⟩
  ·rw [hcJ] at hS ⊢;exact k3 k hS
 have hHR1:HRel P g W1 Hc∧Keep g.S w W1:=by
  have:=HRel.other (w':=W1) hRc.hp hRc.fr (by omega) fun k hk _=>hO1 k hk
  exact this
 have pinag:∀{cs st pe gb W HH},Frm (cJ cs st pe) gb W HH→∀t x,find t σ.env=some x→∀id,x.has id=true→g.agree gb id:=fun hf t x hx id hid=>by
  obtain ⟨o2,h2⟩:=(find_pinH (H0:=c.H0) (pins:=pins) (id:=id)).2 (.inl (within_has (envIn_find hpin hx) hid))
  have:=hparJ hf cs0 .ready none id o2 (by rw [hcJ];exact h2)
  rw [hcJ] at this;exact this
 have recAt:∀{cs st pe W ds},Dfr (cJ cs st pe) W ds→W.heap[w.heap.size+1]?=some (.loop (rec st pe)):=fun hd=>(hd.2.1 _ _ (by rw [hcJ];exact xE)).2
 have keepJ:∀{cs st pe W ds},Dfr (cJ cs st pe) W ds→Keep g.S w W:=fun hd=>by have:=hd.2.2;rw [hcJ] at this;exact this
 have rs:∀st pe st' pe',({ rec st pe with state:=st',pending:=pe' }:Loop)=rec st' pe':=fun _ _ _ _=>by rw [hrec]
 have rs1:∀st pe st',({ rec st pe with state:=st' }:Loop)=rec st' pe:=fun _ _ _=>by rw [hrec]
 refine ⟨w.heap.size+1,[{ target:=.collected w.heap.size,args:=#[] }],W1,{ target:=.fn (.func gf) lb,args:=#[.func (.yield (w.heap.size+1)) #[] #[]] },W1,gf,#[.func (.yield (w.heap.size+1)) #[] #[]]++lb,W1,?_,?_,fun _ _=>trivial,?_,fun hh=>by simp [WF,Fence.wide] at hh,?_⟩
 ·rw [←hW1,hrec];exact run_enterLoop_outer _ _ _ _ _
 ·simp only [resolve,ev]
  simp [Deferred.ofValue]
  rfl
 ·unfold callable at hcb
  split at hcb
  ·rename_i fn' hfn'
   simp only [x4,xR] at hcb
   have hnm:¬fn'.name = "runtime.NumGoroutine":=by simpa using hcb.1
   have hbb:¬fn'.body=none:=by intro h;rw [h] at hcb;simp at hcb
   simp [invoke,callFunc,hfn',hnm,hbb]
  ·cases hcb
 ·refine ((hit g W1 lb hHR1.1 hlb (fun i x hx=>(hvl i x hx).mono (g':=g) hHR1.2 (fun _ h=>h) fun _ _=>Gh.agree.refl _ _) (w.heap.size+1) J Jx ?_ ?_ ?_ h0).more (w7 _)).mono ?_
  ·intro k W W' hj hs
   rw [hJ] at hj ⊢
   obtain ⟨cs,gb,y,hp,hgd,hh,hf,hd⟩:=hj
   obtain ⟨cs',k1,k2,k3⟩:=still hh hf hd hs
   exact ⟨cs',gb,y,hp,hgd,k1,k2,k3⟩
  ·intro W W' hj hs
   rw [hJx] at hj ⊢
   obtain ⟨cs,gb,HH,jump,hj,hh,hf,hd⟩:=hj
   obtain ⟨cs',k1,k2,k3⟩:=still hh hf hd hs
   exact ⟨cs',gb,HH,jump,hj,k1,k2,k3⟩
  ·intro k xs W vals hxk hvs hvv hj
   rw [hJ] at hj
   obtain ⟨cs,gb,y,hp,hgd,hh,hf,hd⟩:=hj
   have hl:=recAt hd
   obtain ⟨hxl,hxw⟩:=hxs xs (zZ hxk)
   have hy:=run_yield (P:=P) (args:=vals) hl (by rw [hrec];show vals.size=qs.size;rw [hvs,hxl,hps];simp)
   rw [hrec] at hy
   refine ⟨_,_,_,_,hy,roundIn_of_wpIn trivial ?_⟩
   have hE0:EnvOK c.nt gb W ac.tmps σ.env:=fun t x hx=>by
    obtain ⟨q1,q2⟩:=hR.env t x hx
    exact ⟨q1,q2.mono (keepJ hd) (hsupJ hf) (pinag hf t x hx)⟩
   obtain ⟨hE,hEs⟩:=hE0.puts (ps:=ps) (xs:=xs) (vs:=vals.toList) hR.size (allLt_lt h3) (by simp [hvs]) (fun i x hx=>by
    have:=(hvv i x hx).mono (g':=gb) (fun _ _=>rfl) (hsupJ hf) fun id hid=>absurd (within_has (withinL_iff.1 hxw x (zZ hx)) hid) (by simp)
    simpa [zC] using this)
   have hfold:(qs.zip vals).foldl (fun t (q,v)=>t.setIfInBounds q v) ac.tmps=(ps.zip vals.toList).foldl (fun t (p,v)=>t.setIfInBounds p v) ac.tmps:=by
    rw [←Array.foldl_toList,Array.toList_zip,hps]
   have hRb:Rel P (cJ cs .ready none) gb ⟨putPs ps xs σ.env,I k y⟩ { tmps:=(qs.zip vals).foldl (fun t (q,v)=>t.setIfInBounds q v) ac.tmps,defers:=[] } W:=by
    refine ⟨?_,hd,?_,hh,hf⟩
    ·show ((qs.zip vals).foldl _ ac.tmps).size=_
     rw [hfold,hEs,hcJ]
    ·show EnvOK _ gb W ((qs.zip vals).foldl _ ac.tmps) _
     rw [hfold,hcJ];exact hE
   have hfacts:factsH (I k y):=by
    have:Rel P (cJ cs .ready none) gb ⟨[],I k y⟩ { tmps:=(qs.zip vals).foldl (fun t (q,v)=>t.setIfInBounds q v) ac.tmps,defers:=[] } W:=⟨hRb.size,hRb.dfr,fun _ _ h=>(by cases h),hh,hf⟩
    exact (this.factsSt hgd).2
   have hm:=round k y xs hxk hp hfacts
   have hH0:∀cs st pe,(cJ cs st pe).H0=pinH c.H0 pins:=fun _ _ _=>by rw [hcJ]
   have hnt:∀cs st pe,(cJ cs st pe).nt=c.nt:=fun _ _ _=>by rw [hcJ]
   rw [←hH0 cs .ready none] at hm
   refine ha (w.heap.size+1) h4 (c:=cJ cs .ready none) (HNOK.of_nh (MC.flat_nh h4)) (fun _ _ h=>h) (by rw [hnt];exact h6) hRb hm (fun c1 σ1 g1 a1 w1 hl1 hk1 hr1=>?_) (fun _ _ _ _ _ _ _ h=>h.elim) (fun _ _ _ _ _ _ h=>h.elim)
   obtain ⟨f1,d1⟩:=le_back hl1 hr1.hp hr1.fr hr1.dfr
   have d1':Dfr (cJ cs .ready none) w1 []:=by rw [hcJ] at d1 ⊢;exact d1
   obtain ⟨t1,t2,t3,t4⟩:=turn .busy none hr1.hp f1 d1'
   refine ⟨_,run_beginRound (recAt d1') (by rw [hrec]),?_⟩
   rw [rs1]
   obtain ⟨c2,hc2⟩:∃c2:Ctx,c2={ cJ cs .busy none with dfr:=a1.defers }:=⟨_,rfl⟩
   have toJ:∀{gx Wx Hx ds},HRel P gx Wx Hx→Frm c2 gx Wx Hx→Dfr c2 Wx ds→Frm (cJ cs .busy none) gx Wx Hx∧Dfr (cJ cs .busy none) Wx []:=fun hh hf hd=>by
    rw [hc2] at hf hd
    exact ⟨⟨hf.os,hf.tape,hf.output,hf.size,hf.old,hf.own,hf.sup,hf.sub,hf.par⟩,⟨by rw [hcJ],hd.2⟩⟩
   have hR2:Rel P c2 g1 σ1 a1 (w1.putObj (w.heap.size+1) (.loop (rec .busy none))):=by
    rw [hc2]
    refine ⟨?_,⟨rfl,t3.2⟩,fun t x hx=>?_,t1,⟨t2.os,t2.tape,t2.output,t2.size,t2.old,t2.own,t2.sup,t2.sub,t2.par⟩⟩
    ·rw [hr1.size,hl1.nt,hnt];exact (hnt cs .busy none).symm
    ·obtain ⟨q1,q2⟩:=hr1.env t x hx
     refine ⟨?_,q2.mono (g':=g1) t4 (fun _ h=>h) fun _ _=>Gh.agree.refl _ _⟩
     rw [hl1.nt,hnt] at q1
     show t<(cJ cs .busy none).nt
     rw [hnt];exact q1
   have h20:c2.H0=pinH c.H0 pins:=by rw [hc2];exact hH0 cs .busy none
   have h2n:c2.nt=c.nt:=by rw [hc2];exact hnt cs .busy none
   rw [hH0,←h20] at hk1
   have leave:∀(jump:Code) {c3:Ctx} {σ3:St} {g3:Gh} {a3:Act} {w3:World},c2.le c3→Rel P c3 g3 σ3 a3 w3→((jump=Code.ret∧R ⟨σ.env,σ3.heap⟩)∨∃i,jump=Code.exit i∧X i ⟨σ.env,σ3.heap⟩) →
     ∃v w',(Instr.endRound (w.heap.size+1) (some jump)).run P w3=.ok v w'∧((Ending.returned v=.returned (.bool true)∧J (k+1) w'∧ItKeep g Hc W w')∨(Ending.returned v=.returned (.bool false)∧Jx w')):=by
    intro jump c3 σ3 g3 a3 w3 hl3 hr3 hj
    obtain ⟨f3,d3⟩:=le_back hl3 hr3.hp hr3.fr hr3.dfr
    obtain ⟨f3,d3⟩:=toJ hr3.hp f3 d3
    obtain ⟨t1,t2,t3,t4⟩:=turn .done (some jump) hr3.hp f3 d3
    have hrun:=run_endRound (P:=P) (some jump) (recAt d3)
    simp only [Option.isNone_some,xI,if_false,rs] at hrun
    refine ⟨_,_,hrun,.inr ⟨rfl,?_⟩⟩
    rw [hJx]
    exact ⟨cs,g3,σ3.heap,jump,hj,t1,t2,t3⟩
   refine hb (w.heap.size+1) h5 (c:=c2) (HNOK.of_nh (MC.flat_nh h5)) (fun _ _ h=>h) (by rw [h2n];exact h7) hR2 hk1 (fun c3 σ3 g3 a3 w3 hl3 hk3 hr3=>?_) (fun c3 i σ3 g3 a3 w3 hl3 hk3 hr3=>?_) (fun c3 σ3 g3 a3 w3 hl3 hk3 hr3=>?_)
   ·have hk3:=Lk.out hk3
    rw [←hl3.H0] at hk3
    obtain ⟨g4,σ4,⟨y',hp',hs'⟩,hr4⟩:=ns_sound hk3 hr3
    have hr4:=hr4.subSt hs'
    obtain ⟨f3,d3⟩:=le_back hl3 hr4.hp hr4.fr hr4.dfr
    obtain ⟨f3,d3⟩:=toJ hr4.hp f3 d3
    obtain ⟨t1,t2,t3,t4⟩:=turn .ready none hr4.hp f3 d3
    have hrun:=run_endRound (P:=P) none (recAt d3)
    simp only [Option.isNone_none,if_true,rs] at hrun
    refine ⟨_,_,hrun,.inl ⟨rfl,?_,fun q hS=>(keepJ t3 q hS).trans (keepJ hd q hS).symm,?_⟩⟩
    ·rw [hJ];exact ⟨cs,g4,y',hp',hs'.1,t1,t2,t3⟩
    ·intro q hq
     have hm:∀st pe,(q,cs q)∈(cJ cs st pe).kp:=fun st pe=>by
      rw [hcJ];exact z7 _ (z7 _ (List.mem_append_left _ (w4.2 ⟨q,(hbl q).2 hq,rfl⟩)))
     rw [(t3.2.1 q _ (hm _ _)).2,(hd.2.1 q _ (hm _ _)).2]
   ·exact leave (.exit i) hl3 hr3 (.inr ⟨i,rfl,hk3⟩)
   ·exact leave .ret hl3 hr3 (.inl ⟨rfl,hk3⟩)
  ·rintro e W' ⟨⟨v,rfl⟩,hj|hj⟩
   ·rw [hJ] at hj
    obtain ⟨cs,gb,y,hp,hgd,hh,hf,hd⟩:=hj
    obtain ⟨c2,hl2,hr2⟩:=fin (.loop { rec .ready none with state:=.exhausted }) hh hf hd
    exact ⟨none,_,by have:=run_endLoop (P:=P) (recAt hd) (by rw [hrec];simp);rw [hrec] at this ⊢;exact this,hK c2 _ _ _ _ hl2 (hdone y hp) hr2⟩
   ·rw [hJx] at hj
    obtain ⟨cs,gb,HH,jump,hj,hh,hf,hd⟩:=hj
    have hrun:=run_endLoop (P:=P) (recAt hd) (by rw [hrec];simp)
    have hpe:(rec .done (some jump)).pending=some jump:=by rw [hrec]
    rw [hpe] at hrun
    obtain ⟨oo,hrun⟩:∃oo,(Instr.endLoop (w.heap.size+1)).run P W'=.ok (some jump) (W'.putObj (w.heap.size+1) oo):=⟨_,hrun⟩
    obtain ⟨c2,hl2,hr2⟩:=fin oo hh hf hd
    refine ⟨some jump,_,hrun,?_⟩
    rcases hj with ⟨rfl,hj⟩|⟨i,rfl,hj⟩
    ·exact wpIn_ret (hT c2 _ _ _ _ hl2 hj hr2)
    ·exact wpIn_exit (hX c2 i _ _ _ _ hl2 hj hr2)
theorem MC.sound {r:Option Nat}:∀(mc:MC),(r=none∨mc.flat=true)→Sound P r mc
 | .skip,_=>by
  intro n c code Q K X R g σ a w hN hQ hok hR h hK hX hT
  cases code<;>try (simp [MC.ok] at hok;done)
  exact wpIn_skip (hK c σ g a w (.refl c) h hR)
 | .ret,_=>by
  intro n c code Q K X R g σ a w hN hQ hok hR h hK hX hT
  cases code<;>try (simp [MC.ok] at hok;done)
  exact wpIn_ret (hT c σ g a w (.refl c) h hR)
 | .exit i,_=>by
  intro n c code Q K X R g σ a w hN hQ hok hR h hK hX hT
  cases code<;>try (simp [MC.ok] at hok;done)
  have e:=zR hok;subst e
  exact wpIn_exit (hX c i σ g a w (.refl c) h hR)
 | .reg ms,_=>by
  intro n c code Q K X R g σ a w hN hQ hok hR h hK hX hT
  cases code<;>try (simp [MC.ok] at hok;done)
  simp only [MC.ok,x4,xR] at hok
  obtain ⟨⟨h1,h0⟩,h2⟩:=hok
  subst h1
  exact region_in h0 hQ (hK c · · · · (.refl c)) h2 hR h
 | .regI ms,_=>by
  intro n c code Q K X R g σ a w hN hQ hok hR h hK hX hT
  cases code<;>try (simp [MC.ok] at hok;done)
  simp only [MC.ok,x4,xR] at hok
  obtain ⟨⟨h1,h0⟩,h2⟩:=hok
  subst h1
  exact regionI_in h0 hQ (hK c · · · · (.refl c)) h2 hR h
 | .regD ms aft anc,_=>by
  intro n c code Q K X R g σ a w hN hQ hok hR h hK hX hT
  cases code<;>try (simp [MC.ok] at hok;done)
  simp only [MC.ok,x4] at hok
  obtain ⟨⟨⟨⟨⟨⟨h1,h0⟩,h2⟩,h3⟩,h4⟩,h5⟩,h6⟩:=hok
  subst h1
  exact regionD_in h0 hQ h2 (hK c · · · · (.refl c)) h3 h4 h5 h6 hR h
 | .seq x y,hf=>by
  intro n c code Q K X R g σ a w hN hQ hok hR h hK hX hT
  cases code<;>try (simp [MC.ok] at hok;done)
  simp only [MC.ok,x4] at hok
  simp only [MC.flat,x4] at hf
  refine wpIn_seq (MC.sound x (hf.imp id And.left) (Q:=Exit.then _ Q) hN.1 hQ hok.1 hR h (fun c' σ g a w hl hk hr=>?_) hX hT)
  rw [←hl.nt] at hok
  rw [←hl.H0] at hk
  exact MC.sound y (hf.imp id And.right) (hN.2.mono hl) hQ hok.2 hr hk (fun c2 σ g a w hl2=>hK c2 σ g a w (hl.trans hl2)) (fun c2 i σ g a w hl2=>hX c2 i σ g a w (hl.trans hl2)) (fun c2 σ g a w hl2=>hT c2 σ g a w (hl.trans hl2))
 | .cut x y,hf=>by
  intro n c code Q K X R g σ a w hN hQ hok hR h hK hX hT
  cases code<;>try (simp [MC.ok] at hok;done)
  simp only [MC.ok,x4] at hok
  simp only [MC.flat,x4] at hf
  obtain ⟨α,I,p,ns,h1,h2⟩:=Lk.out h
  refine wpIn_seq (MC.sound x (hf.imp id And.left) (Q:=Exit.then _ Q) hN.1 hQ hok.1 hR h1 (fun c' σ g a w hl hk hr=>?_) hX hT)
  have hk:=Lk.out hk
  rw [←hl.H0] at hk
  obtain ⟨g,σ,⟨z,hz,hs⟩,hr⟩:=ns_sound hk hr
  have hr':=hr.subSt hs
  have h3:=h2 z hz (hr'.factsSt hs.1)
  rw [←hl.nt] at hok
  rw [←hl.H0] at h3
  exact MC.sound y (hf.imp id And.right) (hN.2.mono hl) hQ hok.2 hr' h3 (fun c2 σ g a w hl2=>hK c2 σ g a w (hl.trans hl2)) (fun c2 i σ g a w hl2=>hX c2 i σ g a w (hl.trans hl2)) (fun c2 σ g a w hl2=>hT c2 σ g a w (hl.trans hl2))
 | .cond x t e,hf=>by
  intro n c code Q K X R g σ a w hN hQ hok hR h hK hX hT
  cases code<;>try (simp [MC.ok] at hok;done)
  simp only [MC.ok,x4] at hok
  simp only [MC.flat,x4] at hf
  simp only [MWP] at h
  split at h
  case h_2=>exact h.elim
  rename_i b hb
  have hv:=Opd.vr hR hok.1.1
  rw [hb] at hv
  obtain ⟨h1,h2⟩:=h
  cases b with
  | true =>
   have h1:=h1 rfl
   rw [cslot_rel hR hb] at h1
   exact wpIn_cond_true hv.bool_inv (MC.sound t (hf.imp id And.left) hN.1 hQ hok.1.2 hR h1 hK hX hT)
  | false =>
   have h2:=h2 rfl
   rw [cslot_rel hR hb] at h2
   exact wpIn_cond_false hv.bool_inv (MC.sound e (hf.imp id And.right) hN.2 hQ hok.2 hR h2 hK hX hT)
 | .block i b,hf=>by
  intro n c code Q K X R g σ a w hN hQ hok hR h hK hX hT
  cases code<;>try (simp [MC.ok] at hok;done)
  simp only [MC.ok,x4] at hok
  have e:=zR hok.1;subst e
  refine wpIn_block (MC.sound b hf (Q:=Exit.inBlock i Q) hN hQ hok.2 hR h hK (fun c' j σ g a w hl hx hr=>?_) hT)
  simp only [Exit.inBlock]
  cases hb:Nat.beq j i with
  | true =>
   have e:=zR hb;subst e
   rw [hb] at hx
   simp only [if_true]
   exact hK c' σ g a w hl hx hr
  | false =>
   rw [hb] at hx
   have:j≠i:=fun e=>by rw [e,wY] at hb;cases hb
   simp only [this,if_false]
   exact hX c' j σ g a w hl hx hr
 | .loop b,hf=>by
  intro n c code Q K X R g σ a w hN hQ hok hR h hK hX hT
  cases code<;>try (simp [MC.ok] at hok;done)
  simp only [MC.ok] at hok
  obtain ⟨α,I,p,μ,ns,h0,round⟩:=Lk.out h
  obtain ⟨g,σ,⟨x0,hp0,hs0⟩,hR⟩:=ns_sound h0 hR
  refine wpIn_loop' (fun x a w=>p x∧(I x).good=true∧∃c' g,c.le c'∧Rel P c' g (I x) a w) μ ⟨x0,hp0,hs0.1,c,g,.refl c,hR.subSt hs0⟩ ?_
  rintro x a w ⟨hp,hg,c',g,hl,hr⟩
  have h1:=round x hp (hr.factsSt hg)
  rw [←hl.nt] at hok
  rw [←hl.H0] at h1
  refine MC.sound b hf (Q:=Exit.then _ Q) (HNOK.mono (mc:=b) hl hN) hQ hok hr h1 (fun c2 σ g a w hl2 hk hr=>?_) (fun c2 i σ g a w hl2=>hX c2 i σ g a w (hl.trans hl2)) (fun c2 σ g a w hl2=>hT c2 σ g a w (hl.trans hl2))
  have hk:=Lk.out hk
  rw [←hl2.H0] at hk
  obtain ⟨g,σ,⟨y,hy,hlt,hs⟩,hr⟩:=ns_sound hk hr
  exact ⟨y,⟨hy,hs.1,c2,g,hl.trans hl2,hr.subSt hs⟩,hlt⟩
 | .note m b,hf=>by
  intro n c code Q K X R g σ a w hN hQ hok hR h hK hX hT
  have hok':b.ok P c.nt code=true:=by
   unfold MC.ok at hok;exact hok
  obtain ⟨g',σ',h',hR'⟩:=note_sound h hR
  exact MC.sound b hf hN hQ hok' hR' h' hK hX hT
 | .hnote T b,hf=>by
  intro n c code Q K X R g σ a w hN hQ hok hR h hK hX hT
  have hok':b.ok P c.nt code=true:=by
   unfold MC.ok at hok;exact hok
  obtain ⟨g',σ',h',hR'⟩:=hN.1 _ c g σ a w (.refl c) hR h
  exact MC.sound b (.inl (hf.resolve_right (by simp [MC.flat]))) hN.2 hQ hok' hR' h' hK hX hT
 | .no,_=>by
  intro n c code Q K X R g σ a w hN hQ hok hR h hK hX hT
  exact h.elim
 | .rngF s ps a b,hf=>by
  have hr:r=none:=hf.resolve_right (by simp [MC.flat])
  subst hr
  exact rngF_sound s ps a b (fun l hl=>MC.sound (r:=some l) a (.inr hl)) (fun l hl=>MC.sound (r:=some l) b (.inr hl))
end
end Go.Ab
namespace Go.Ab
open Go.RowKit
def sel:List Nat→Heap→Heap
 | [],_=>[]
 | n::r,H=>match find n H with
  | some o=>(n,o)::sel r H
  | none=>sel r H
def selOK:List Nat→Heap→Bool
 | [],_=>true
 | n::r,H=>inHeap n H&&!mem n r&&selOK r H
def Obj'.within (l:List Nat):Obj'→Bool
 | .cells cs _=>V.withinL l cs
 | .nmap z _ _ _=>mem z l
 | _=>true
def withinH (l:List Nat):Heap→Bool
 | []=>true
 | (_,o)::r=>o.within l&&withinH l r
def enumE:Nat→List V→List (Nat×V)
 | _,[]=>[]
 | n,x::r=>(n,x)::enumE (n+1) r
inductive RS where
 | t (s:Nat)
 | c (s:Nat) (n:Option Nat)
def resAll (σ:St):List RS→(List V→Prop)→Prop
 | [],K=>K []
 | .t s::r,K=>resAll σ r fun vs=>K (get s σ.env::vs)
 | .c s n::r,K=>sLd n (get s σ.env) (fun id=>find id σ.heap) (fun x=>resAll σ r fun vs=>K (x::vs)) (fun x=>resAll σ r fun vs=>K (x::vs))
def tupv:List V→V
 | [x]=>x
 | xs=>.tup xs
def resOK (P:Program):List RS→List ResultVar→Bool
 | [],[]=>true
 | .t s::r,.tmp t::q=>Nat.beq s t&&resOK P r q
 | .c s n::r,.cell t ty::q=>Nat.beq s t&&decide (aggN P ty=some n)&&resOK P r q
 | _,_=>false
def endQ (rids:List Nat) (Q:V→Heap→Prop) (σ:St) (v:V):Prop :=
 bif selOK rids σ.heap&&v.within rids&&withinH rids (sel rids σ.heap) then Q v (sel rids σ.heap) else False
def atEnd (rids:List Nat) (rs:List RS) (Q:V→Heap→Prop) (σ:St):Prop:=resAll σ rs fun vs=>endQ rids Q σ (tupv vs)
def atEndN (H0:Heap) (ns:List Note) (rids:List Nat) (rs:List RS) (Q:V→Heap→Prop) (σ:St):Prop:=stepNs H0 ns σ (atEnd rids rs Q)
section
variable {P:Program}
theorem find_sel {n:Nat} {o:Obj'}:∀{l:List Nat} {H:Heap},find n (sel l H)=some o→n∈l∧find n H=some o
 | [],_,h=>by cases h
 | m::r,H,h=>by
  simp only [sel] at h
  cases hm:find m H with
  | none =>
   rw [hm] at h
   obtain ⟨h1,h2⟩:=find_sel (l:=r) h
   exact ⟨z7 _ h1,h2⟩
  | some o' =>
   rw [hm] at h
   simp only [find] at h
   cases hb:Nat.beq n m with
   | true =>
    rw [hb] at h;cases h
    have e:=zR hb;subst e
    exact ⟨xE,hm⟩
   | false =>
    rw [hb] at h
    obtain ⟨h1,h2⟩:=find_sel (l:=r) h
    exact ⟨z7 _ h1,h2⟩
theorem sel_find {n:Nat}:∀{l:List Nat} {H:Heap},selOK l H=true→n∈l→∃o,find n (sel l H)=some o
 | m::r,H,h,hm=>by
  simp only [selOK,x4] at h
  obtain ⟨⟨h1,h2⟩,h3⟩:=h
  obtain ⟨o,ho⟩:=inHeap_find.1 h1
  simp only [sel,ho,find]
  cases hb:Nat.beq n m with
  | true=>exact ⟨o,rfl⟩
  | false =>
   rcases wO.1 hm with e|hm
   ·rw [e,wY] at hb;cases hb
   ·exact sel_find h3 hm
theorem withinH_find {l:List Nat} {n:Nat} {o:Obj'}:∀{H:Heap},withinH l H=true→find n H=some o→o.within l=true
 | (m,y)::r,h,hf=>by
  simp only [withinH,x4] at h
  simp only [find] at hf
  cases hb:Nat.beq n m with
  | true=>rw [hb] at hf;cases hf;exact h.1
  | false=>rw [hb] at hf;exact withinH_find h.2 hf
theorem obj_within_has {l:List Nat} {id:Nat} {o:Obj'} (h:o.within l=true) (hh:o.has id=true):id∈l:=by
 cases o with
 | cells cs ty =>
  simp only [Obj'.within,Obj'.has] at h hh
  obtain ⟨x,hx,hxh⟩:=hasL_iff.1 hh
  exact within_has (withinL_iff.1 h x hx) hxh
 | nmap z k kd es =>
  simp only [Obj'.within,Obj'.has] at h hh
  rw [zR hh];exact mem_iff.1 h
 | _=>simp [Obj'.has] at hh
theorem find_enumE {s:Nat} {x:V}:∀{l:List V} {n:Nat},find s (enumE n l)=some x→n≤s∧l[s - n]?=some x
 | [],_,h=>by cases h
 | y::r,n,h=>by
  simp only [enumE,find] at h
  cases hb:Nat.beq s n with
  | true =>
   rw [hb] at h;cases h
   have e:=zR hb;subst e
   exact ⟨w9 _,by simp⟩
  | false =>
   rw [hb] at h
   obtain ⟨h1,h2⟩:=find_enumE (l:=r) h
   have e:s - n=(s - (n+1))+1:=by omega
   exact ⟨by omega,by rw [e];exact h2⟩
open Classical in
noncomputable def Gh.mix (g g':Gh) (l:List Nat):Gh :=
 ⟨g'.S,fun i=>if i∈l then g'.ρ i else g.ρ i,fun i=>if i∈l then g'.base i else g.base i,fun i=>if i∈l then g'.cap i else g.cap i,fun i=>if i∈l then g'.nil i else g.nil i⟩
theorem mix_in {g g':Gh} {l:List Nat} {i:Nat} (h:i∈l):g'.agree (g.mix g' l) i:=by simp [Gh.agree,Gh.mix,h]
theorem mix_out {g g':Gh} {l:List Nat} {i:Nat} (h:i∉l):g.agree (g.mix g' l) i:=by simp [Gh.agree,Gh.mix,h]
theorem get_vr {c:Ctx} {g:Gh} {σ:St} {a:Act} {w:World} (hR:Rel P c g σ a w) (s:Nat):VR g w (a.tmps.getD s undef) (get s σ.env):=by
 rw [get_find]
 cases hf:find s σ.env with
 | none=>exact .any _
 | some x=>exact (hR.env s x hf).2
theorem resAll_run {c:Ctx} {g:Gh} {σ:St} {a:Act} {w:World} (hR:Rel P c g σ a w) {F:ResultVar→Sem Value} (hF:∀t,F (.tmp t)=pure (a.tmps.getD t undef))
  (hG:∀t ty ad u,a.tmps.getD t undef=.pointer (some ad)→(loadVar ty ad).run P w=.ok u w→(F (.cell t ty)).run P w=.ok u w) :
  ∀{rs:List RS} {q:List ResultVar} {K:List V→Prop},resOK P rs q=true→resAll σ rs K→∃us vs,(q.mapM F).run P w=.ok us w∧us.length=vs.length∧(∀(i:Nat) (x:V),vs[i]?=some x→VR g w (us.toArray.getD i undef) x)∧K vs
 | [],[],K,_,h=>⟨[],[],by simp,rfl,fun i x hx=>by simp at hx,h⟩
 | .t s::r,.tmp t::q,K,hok,h=>by
  simp only [resOK,x4] at hok
  have e:=zR hok.1;subst e
  obtain ⟨us,vs,h1,h2,h3,h4⟩:=resAll_run hR hF hG hok.2 h
  refine ⟨a.tmps.getD s undef::us,get s σ.env::vs,?_,by simp [h2],fun i x hx=>?_,h4⟩
  ·simp only [List.mapM_cons,wU,hF,wT,xK,h1]
  ·cases i with
   | zero=>simp at hx;subst hx;simpa using get_vr hR s
   | succ i=>simp at hx;simpa [zC] using h3 i x hx
 | .c s n::r,.cell t ty::q,K,hok,h=>by
  simp only [resOK,x4,xJ] at hok
  have e:=zR hok.1.1;subst e
  obtain ⟨ad,u,z,e1,e2,e3,e4⟩:=ld_run hok.1.2 hR.hp (fun _ _ h=>h) (get_vr hR s) h
  have e3:resAll σ r fun vs=>K (z::vs):=by rcases e3 with e3|e3<;>exact e3
  obtain ⟨us,vs,h1,h2,h3,h4⟩:=resAll_run hR hF hG hok.2 e3
  refine ⟨u::us,z::vs,?_,by simp [h2],fun i x hx=>?_,h4⟩
  ·simp only [List.mapM_cons,wU,hG s ty ad u e1 e2,wT,xK,h1]
  ·cases i with
   | zero=>simp at hx;subst hx;simpa using e4
   | succ i=>simp at hx;simpa [zC] using h3 i x hx
 | [],_::_,K,hok,h=>by simp [resOK] at hok
 | .t _::_,[],K,hok,h=>by simp [resOK] at hok
 | .c _ _::_,[],K,hok,h=>by simp [resOK] at hok
 | .t _::_,.cell _ _::_,K,hok,h=>by simp [resOK] at hok
 | .c _ _::_,.tmp _::_,K,hok,h=>by simp [resOK] at hok
theorem results_aux {c:Ctx} {g:Gh} {σ:St} {a:Act} {w:World} {l:List ResultVar} {rs:List RS} (hR:Rel P c g σ a w) (hok:resOK P rs l=true) {K:V→Prop} (h:resAll σ rs fun vs=>K (tupv vs)) {F:ResultVar→Sem Value}
  (hF:∀t,F (.tmp t)=pure (a.tmps.getD t undef)) (hG:∀t ty ad u,a.tmps.getD t undef=.pointer (some ad)→(loadVar ty ad).run P w=.ok u w→(F (.cell t ty)).run P w=.ok u w) :
  ∃v x,((((l.mapM F).run P w).andThen fun a w'=>.ok a.toArray w').andThen fun a w'=>(pure (if h:a.size=1 then a[0] else Value.tuple a):Sem Value).run P w')=.ok v w∧VR g w v x∧K x:=by
 obtain ⟨us,vs,h1,h2,h3,h4⟩:=resAll_run hR hF hG hok h
 rw [h1]
 match us,vs with
 | [u],[x]=>exact ⟨u,x,by simp,by simpa using h3 0 x rfl,h4⟩
 | [],[]=>exact ⟨.tuple #[],.tup [],by simp,.tup _ _ rfl fun i x hx=>by simp at hx,h4⟩
 | u1::u2::ur,x1::x2::xr=>exact ⟨.tuple (u1::u2::ur).toArray,.tup (x1::x2::xr),by simp,.tup _ _ (by simpa using h2) h3,h4⟩
 | [],_::_=>simp at h2
 | [_],[]=>simp at h2
 | [_],_::_::_=>simp at h2
 | _::_::_,[]=>simp at h2
 | _::_::_,[_]=>simp at h2
theorem results_run {c:Ctx} {g:Gh} {σ:St} {a:Act} {w:World} {fn:Func} {rs:List RS} (hR:Rel P c g σ a w) (hok:resOK P rs fn.results.toList=true) {K:V→Prop} (h:resAll σ rs fun vs=>K (tupv vs)) :
  ∃v x,(results fn a.tmps).run P w=.ok v w∧VR g w v x∧K x:=by
 unfold results
 rw [Array.mapM_eq_mapM_toList]
 simp only [wU,Sem.run_map]
 exact results_aux hR hok h (fun t=>rfl) (fun t ty ad u e1 e2=>by simp [e1,asAddr,e2])
theorem end_of {g:Gh} {w:World} {H:Heap} {nt:Nat} {g':Gh} {σ:St} {a:Act} {w':World} {rids:List Nat} {x:V} {Q:V→Heap→Prop} {v:Value} (hR:Rel P ⟨w,g,H,nt,[],[],H,g,w⟩ g' σ a w')
  (hv:VR g' w' v x) (h:endQ rids Q σ x):∃r H' g'',Q r H'∧HRel P g'' w' H'∧VR g'' w' v r∧Frm ⟨w,g,H,0,[],[],H,g,w⟩ g'' w' H'∧(∀id,find id H'=none→g.agree g'' id):=by
 unfold endQ at h
 cases hc:selOK rids σ.heap&&x.within rids&&withinH rids (sel rids σ.heap) with
 | false=>rw [hc] at h;exact h.elim
 | true =>
  rw [hc] at h
  simp only [x4] at hc
  obtain ⟨⟨h1,h2⟩,h3⟩:=hc
  have hk:Keep g'.S w' w':=fun _ _=>rfl
  have hs:∀b,g'.S b→(g.mix g' rids).S b:=fun _ h=>h
  refine ⟨_,_,g.mix g' rids,h,⟨fun id o ho=>?_,fun i j o o' hi hj hni hnj he=>?_,fun id o ho hn hS=>?_,hR.hp.lt,hR.hp.tabs⟩,hv.mono hk hs fun id hid=>mix_in (within_has h2 hid),
   ⟨hR.fr.os,hR.fr.tape,hR.fr.output,hR.fr.size,hR.fr.old,fun id o ho hn=>?_,hR.fr.sup,hR.fr.sub,fun id o ho=>?_⟩,fun id hid=>?_⟩
  ·obtain ⟨k1,k2⟩:=find_sel ho
   exact (hR.hp.obj id o k2).mono hk hs (mix_in k1) (fun _=>rfl) (fun n hn=>mix_in (obj_within_has (withinH_find h3 ho) hn)) (w9 _)
  ·obtain ⟨k1,k2⟩:=find_sel hi
   obtain ⟨k3,k4⟩:=find_sel hj
   obtain ⟨e1,_,_,e2⟩:=mix_in (g:=g) (g':=g') k1
   obtain ⟨e3,_,_,e4⟩:=mix_in (g:=g) (g':=g') k3
   exact hR.hp.inj i j o o' k2 k4 (fun h=>hni (e2.2 h)) (fun h=>hnj (e4.2 h)) (by rw [←e1,←e3];exact he)
  ·obtain ⟨k1,k2⟩:=find_sel ho
   obtain ⟨e1,_,_,e2⟩:=mix_in (g:=g) (g':=g') k1
   rw [e1] at hS
   exact hR.hp.sep id o k2 (fun h=>hn (e2.2 h)) hS
  ·obtain ⟨k1,k2⟩:=find_sel ho
   obtain ⟨e1,_,_,e2⟩:=mix_in (g:=g) (g':=g') k1
   rw [e1]
   exact hR.fr.own id o k2 fun h=>hn (e2.2 h)
  ·by_cases hm:id∈rids
   ·exact (hR.fr.par id o ho).trans (mix_in hm)
   ·exact mix_out hm
  ·by_cases hm:id∈rids
   ·obtain ⟨o,ho⟩:=sel_find h1 hm
    rw [ho] at hid;cases hid
   ·exact mix_out hm
def shutAll:List Nat→World→World
 | [],w=>w
 | D::r,w=>shutAll r (w.putObj D (.deferred none))
theorem shutAll_facts:∀(Ds:List Nat) (w:World),(shutAll Ds w).os=w.os∧(shutAll Ds w).tape=w.tape∧(shutAll Ds w).output=w.output∧(shutAll Ds w).heap.size=w.heap.size∧∀b,b∉Ds→(shutAll Ds w).heap[b]?=w.heap[b]?
 | [],w=>⟨rfl,rfl,rfl,rfl,fun _ _=>rfl⟩
 | D::r,w=>by
  obtain ⟨h1,h2,h3,h4,h5⟩:=shutAll_facts r (w.putObj D (.deferred none))
  exact ⟨h1,h2,h3,h4.trans (by simp),fun b hb=>(h5 b fun h=>hb (z7 _ h)).trans (World.putObj_heap_other fun e=>hb (e▸xE))⟩
theorem leaves_marks {F:Fence} {n:Nat} {fn:Func} {tmps:Array Value} {R:Ending→World→Prop}:∀(Ds:List Nat) (w:World),Ds.Nodup→(∀D∈Ds,w.heap[D]?=some (.deferred (some [])))→LeavesIn F n P fn tmps R [] .returning (shutAll Ds w) →
  LeavesInM F n P fn tmps R (Ds.map fun D=>{ target:=.collected D,args:=#[] }) .returning w
 | [],w,_,_,h=>h
 | D::r,w,hn,hd,h=>by
  obtain ⟨h1,h2⟩:=List.nodup_cons.1 hn
  refine ⟨by simp,.inl ⟨D,w.putObj D (.deferred none),rfl,run_takeDeferred (hd D xE),leaves_marks r _ h2 (fun E hE=>?_) h⟩⟩
  exact (World.putObj_heap_other fun e=>by subst e;exact h1 hE).trans (hd E (z7 _ hE))
theorem calls_of {f:Nat} {fn:Func} {code:Code} {mc:MC} {args:List V} {H:Heap} {Q:V→Heap→Prop} {g:Gh} {w:World} {vals:Array Value} (ns:List Note) (rids:List Nat) (rs:List RS) (hf:P.funcs[f]?=some fn) (hb:fn.body=some code)
  (hnh:HNOK P ⟨w,g,H,fn.ntmps,[],[],H,g,w⟩ mc) (hok:mc.ok P fn.ntmps code=true) (hrs:resOK P rs fn.results.toList=true) (hn:Nat.ble args.length fn.ntmps=true) (hg:St.good ⟨enumE 0 args,H⟩=true)
  (h:factsSt ⟨enumE 0 args,H⟩→MWP P H mc (atEndN H ns rids rs Q) (fun _ _=>False) (atEndN H ns rids rs Q) ⟨enumE 0 args,H⟩) (hH:HRel P g w H) (hl:vals.size=args.length) (hv:∀(i:Nat) (x:V),args[i]?=some x→VR g w (vals.getD i undef) x) :
  Calls P f vals w fun e w'=>∃v r H' g',e=.returned v∧Q r H'∧HRel P g' w' H'∧VR g' w' v r∧Frm ⟨w,g,H,0,[],[],H,g,w⟩ g' w' H'∧(∀id,find id H'=none→g.agree g' id):=by
 refine calls_wf (r:=none) (n:=0) (callsIn_of_wp_marks hf hb trivial ?_)
 obtain ⟨c,hcd⟩:∃c:Ctx,c=⟨w,g,H,fn.ntmps,[],[],H,g,w⟩:=⟨_,rfl⟩
 have hR:Rel P c g ⟨enumE 0 args,H⟩ { tmps:=vals++Array.replicate (fn.ntmps - vals.size) undef,defers:=[] } w:=by
  rw [hcd]
  have hle:vals.size≤fn.ntmps:=by rw [hl];exact zQ hn
  refine ⟨by simp;omega,⟨rfl,fun _ _ h=>(by cases h),fun _ _=>rfl⟩,fun s x hx=>?_,hH,⟨rfl,rfl,rfl,w9 _,fun _ _ _=>rfl,fun id o ho hn=>⟨.inr ⟨id,o,ho,hn,rfl⟩,fun _ h=>by cases h⟩,fun _ h=>h.elim id id,fun _ h=>⟨.inl h,fun _ h=>by cases h⟩,fun id _ _=>Gh.agree.refl g id⟩⟩
  obtain ⟨_,h2⟩:=find_enumE hx
  rw [Nat.sub_zero] at h2
  have hlt:s<vals.size:=by
   rw [hl];exact (zG.1 h2).1
  refine ⟨xC hlt hle,?_⟩
  have e:(vals++Array.replicate (fn.ntmps - vals.size) undef).getD s undef=vals.getD s undef:=by
   simp [zC,zW,hlt]
  rw [e]
  exact hv s x h2
 have fin:∀(c':Ctx) (σ:St) (g':Gh) (a:Act) (w':World),c.le c'→atEndN H ns rids rs Q σ→Rel P c' g' σ a w' →
   LeavesInM (WF none) 0 P fn a.tmps (fun e w'=>∃v r H' g',e=.returned v∧Q r H'∧HRel P g' w' H'∧VR g' w' v r∧Frm ⟨w,g,H,0,[],[],H,g,w⟩ g' w' H'∧(∀id,find id H'=none→g.agree g' id)) a.defers .returning w':=by
  intro c' σ g' a w' hle hq hr
  obtain ⟨Ds,e1,e2,e3⟩:=hle.dfr
  have e4:a.defers=Ds.map fun D=>{ target:=.collected D,args:=#[] }:=by
   rw [hr.dfr.1,e1,hcd];simp
  rw [e4]
  refine leaves_marks Ds w' e2 (fun D hD=>(hr.dfr.2.1 D _ (e3 D hD).1).2) ?_
  obtain ⟨s1,s2,s3,s4,s5⟩:=shutAll_facts Ds w'
  obtain ⟨k1,k2,k3⟩:=other3 (c2:=c) (w':=shutAll Ds w') hr.hp hr.fr hr.dfr hle.w0.symm hle.g0.symm hle.hm.symm (fun b hS=>hr.fr.sup b (.inr (by rw [hle.gp];exact hS))) (fun id o ho=>by
   have:=hr.fr.par id o (by rw [hle.H0];exact ho)
   rwa [hle.gp] at this) s1 s2 s3 (by rw [s4];exact w9 _) (fun b _ hf=>s5 b fun hb=>hf _ (e3 b hb).1) (fun b _ _ _ o ho=>by rw [hcd] at ho;cases ho)
  have hr2:Rel P c g' σ { a with defers:=[] } (shutAll Ds w'):=by
   refine ⟨by rw [←hle.nt];exact hr.size,⟨by rw [hcd],fun b o ho=>(by rw [hcd] at ho;cases ho),fun b hS=>?_⟩,fun t x hx=>?_,k1,k2⟩
   ·refine (k3 b (hr.fr.sup b (.inr (by rw [hle.gp];exact hS)))).trans ?_
    have:=hr.dfr.2.2 b (by rw [hle.gp];exact hS)
    rwa [hle.wp] at this
   ·obtain ⟨q1,q2⟩:=hr.env t x hx
    exact ⟨by rw [←hle.nt];exact q1,q2.mono (g':=g') k3 (fun _ h=>h) fun _ _=>Gh.agree.refl _ _⟩
  have hH0:c.H0=H:=by rw [hcd]
  unfold atEndN at hq
  rw [←hH0] at hq
  obtain ⟨g',σ,hq,hr⟩:=ns_sound hq hr2
  obtain ⟨v,x,h1,h2,h0⟩:=results_run hr hrs hq
  rw [hcd] at hr
  obtain ⟨r,H',g'',h3,h4,h5,h6,h7⟩:=end_of hr h2 h0
  exact ⟨v,h1,v,r,H',g'',rfl,h3,h4,h5,h6,h7⟩
 have hm:=h (hR.factsSt hg)
 have hH0:c.H0=H:=by rw [hcd]
 rw [←hH0] at hm
 rw [hH0] at hm
 refine MC.sound mc (.inl rfl) (c:=c) (K:=atEndN H ns rids rs Q) (X:=fun _ _=>False) (R:=atEndN H ns rids rs Q) (by rw [hcd];exact hnh) ?_ (by rw [hcd];exact hok) hR (by rw [hH0];exact hm) (fun c' σ g' a w' hle hq hr=>?_) (fun _ _ _ _ _ _ _ h=>h.elim) (fun c' σ g' a w' hle hq hr=>?_)
 ·rintro _ _ ⟨v,_,_,_,h,_⟩;cases h
 ·exact fin c' σ g' a w' hle hq hr
 ·exact fin c' σ g' a w' hle hq hr
theorem acall_ofN {f:Nat} {fn:Func} {code:Code} {mc:MC} {args:List V} {H:Heap} {Q:V→Heap→Prop} (ns:List Note) (rids:List Nat) (rs:List RS) (hf:P.funcs[f]?=some fn) (hb:fn.body=some code) (hc:callable P f=true)
  (hnh:mc.nh=true) (hok:mc.ok P fn.ntmps code=true) (hrs:resOK P rs fn.results.toList=true) (hn:Nat.ble args.length fn.ntmps=true) (hg:St.good ⟨enumE 0 args,H⟩=true)
  (h:factsSt ⟨enumE 0 args,H⟩→MWP P H mc (atEndN H ns rids rs Q) (fun _ _=>False) (atEndN H ns rids rs Q) ⟨enumE 0 args,H⟩):ACall P f args H Q :=
 ⟨hc,fun g w vals hH hl hv=>calls_of ns rids rs hf hb (.of_nh hnh) hok hrs hn hg h hH hl hv⟩
end
end Go.Ab
