/- The abstract layer, part 13: strings of bytes, calls; every instruction is sound. -/
import Derived.Test.YtnaeedamiaoipaaGreatDoorAbSndH
import Derived.Test.YtnaeedamiaoipaaGreatDoorAbSndM
set_option linter.all false
namespace Go.Ab
open Go.RowKit
section
variable {P:Program} {o:Oper} {c:Ctx} {g:Gh} {σ:St} {a:Act} {w:World} {ob:Nat→Option Obj'} {K L:Eff→Prop} {K':Act→World→Prop} {Q':Exit→Act→World→Prop}
theorem push_bytes:∀(s:List UInt8) (b:ByteArray),((s.map fun c=>(c.toNat:Int)).foldl (fun r n=>r.push (UInt8.ofNat n.toNat)) b).data.toList=b.data.toList++s
 | [],b=>by simp
 | c::s,b=>by
  simp only [List.map_cons,List.foldl_cons]
  rw [push_bytes s]
  have:(b.push (UInt8.ofNat ((c.toNat:Int).toNat))).data=b.data.push c:=by
   simp [ByteArray.push]
  rw [this];simp
theorem run_b2s {w:World} {k:Nat} {v:Value} {ys:List V} {news:List Value} {S:Nat→Prop} {s:List UInt8} (h:Src P S w k v ys news) (hk:k=1) (hs:ys=s.map byteV) (hv:(∃ad n cp,v=.slice ad n cp) ):∃b:ByteArray,(Conv.bytesToString v).run P w=.ok (.string b) w∧b.data.toList=s:=by
 subst hk
 obtain ⟨ad,n,cp,rfl⟩:=hv
 have hl:ys.length=s.length:=by rw [hs];simp
 have hn:n=s.length:=by
  have:=h.lenOf
  simp [Builtin.lenOf] at this
  omega
 have hnews:news=s.map fun c=>Value.int .u8 c.toNat:=by
  apply List.ext_getElem?
  intro j
  by_cases hj:j<s.length
  ·have hyj:ys[j]?=some (byteV s[j]):=by rw [hs];simp [hj]
   have:=h.rd j 0 (byteV s[j]) (byteV s[j]) hyj rfl
   rw [Nat.mul_one,Nat.add_zero] at this
   have hlt:j<news.length:=by have:=h.len;omega
   have e1:news.getD j undef=news[j]:=by simp [hlt]
   rw [e1] at this
   have e2:=(VR.rd (g:=⟨S,id,id,id,fun _=>False⟩) this).int_inv.1
   rw [List.getElem?_eq_getElem hlt,e2]
   simp [hj]
  ·rw [List.getElem?_eq_none (by have:=h.len;omega),List.getElem?_eq_none (by simp;omega)]
 cases ad with
 | none =>
  have hz:s.length=0:=by
   have:=h.first
   simp [Builtin.firstCells] at this
   have h2:news=[]:=this
   have:=h.len;rw [h2] at this;simp at this;omega
  have:s=[]:=List.eq_nil_of_length_eq_zero hz
  subst this
  exact ⟨.empty,by simp [Conv.bytesToString],rfl⟩
 | some ad =>
  have hf:=h.first
  simp only [Builtin.firstCells,Nat.mul_one] at hf
  rw [hl] at hf
  have:=run_bytesToString (P:=P) w ad n cp (s.map fun c=>(c.toNat:Int)) (by rw [hn,hf,hnews];simp)
  exact ⟨_,this,by rw [push_bytes];rfl⟩
theorem s_b2s {x:Opd} (hok:(MIns.b2s x).ok P o.op=true) (hR:Rel P c g σ a w) (hob:∀id o,ob id=some o→find id σ.heap=some o) {d:Nat} (h:stepV P (.b2s x) d [x.ev σ.env] ob K L) (hF:Fin o c g σ a w K L K'):o.wp P a w K' Q':=by
 have:∃s dd y e,o.op=.convert s dd y∧x.ok y=true∧P.underlying dd=some .string∧P.underlying s=some (.slice e)∧P.underlying e=some (.int .u8):=by
  cases ho:o.op<;>rw [ho] at hok<;>try (simp [MIns.ok] at hok;done)
  rename_i s dd y
  simp only [MIns.ok,Bool.and_eq_true,isByteSlice] at hok
  obtain ⟨⟨h1,h2⟩,h3⟩:=hok
  split at h2<;>try (cases h2;done)
  rename_i e hu
  simp only [Bool.and_eq_true] at h2
  refine ⟨s,dd,y,e,rfl,h1,strT h3,hu,?_⟩
  have:=h2.1
  split at this<;>first|assumption|cases this
 obtain ⟨s,dd,y,e,ho,hx,hd,hs,he⟩:=this
 have vx:=Opd.vr hR hx
 have hexec:∀{ad:Option Addr} {n cp:Nat} {r:Value},a.eval y=.slice ad n cp→(Conv.bytesToString (.slice ad n cp)).run P w=.ok r w→(execOp a.eval o).run P w=.ok (.value r) w:=by
  intro ad n cp r e1 hr
  simp only [execOp,ho,e1]
  refine exec_v ?_
  rw [run_convert_bytes_string w s dd e ad n cp hs he hd,hr]
 have src:∀{ys:List V} {t:List UInt8},appSrc 1 (x.ev σ.env) ob=some ys→vlen (x.ev σ.env)≤ys.length→(∃ad n cp,a.eval y=.slice ad n cp)→ys=t.map byteV→(K (evl (.str t))∨L (evl (.str t)))→o.wp P a w K' Q':=by
  intro ys t hsrc hvl ⟨ad,n,cp,e1⟩ hys hk
  obtain ⟨news,hsr⟩:=app_src hR hob vx hsrc hvl (fun z hz=>by rw [hys] at hz;exact (byteV_ok t z hz).1)
  obtain ⟨b,hb1,hb2⟩:=run_b2s hsr rfl hys ⟨ad,n,cp,e1⟩
  rw [e1] at hb1
  refine fin_val hR hF (hexec e1 hb1) hk (.rd ?_)
  rw [←hb2]
  refine .str b ?_
  have hsz:b.size=t.length:=by rw [←hb2,Array.length_toList];rfl
  have:=hsr.big
  rw [hys] at this;simp at this;omega
 simp only [stepV,sB2s] at h
 split at h
 ·rename_i hc
  rw [hc] at vx
  exact src (ys:=[]) (t:=[]) (by rw [hc];rfl) (by rw [hc];exact Nat.le_refl _) ⟨none,0,0,vx.nils_inv⟩ rfl (.inl h)
 ·rename_i xs hc
  rw [hc] at vx
  obtain ⟨t,rfl,hk⟩:=h
  refine src (ys:=t.map byteV) (t:=t) (by rw [hc];rfl) (by rw [hc];exact Nat.zero_le _) ?_ rfl (.inr hk)
  have hrd:=vx.sl_inv
  generalize a.eval y=vy at hrd
  generalize hxs:t.map byteV=xs at hrd
  cases hrd with
  | nilsl=>exact ⟨_,_,_,rfl⟩
  | slz=>exact ⟨_,_,_,rfl⟩
  | sl=>exact ⟨_,_,_,rfl⟩
 ·rename_i id k lo n hc
  rw [hc] at vx
  split at h
  ·rename_i k' xs t0 hobj
   by_cases hb:(Nat.beq k k'&&Nat.beq k 1)=true
   case neg=>simp [hb] at h
   simp only [hb,cond_true] at h
   simp only [Bool.and_eq_true] at hb
   have q1:=Nat.eq_of_beq_eq_true hb.1;subst q1
   have q2:=Nat.eq_of_beq_eq_true hb.2;subst q2
   obtain ⟨t,ht,hl,hk⟩:=h
   refine src (ys:=(xs.drop lo).take n) (t:=t) ?_ ?_ ?_ ht (.inr hk)
   ·rw [hc];simp [appSrc,hobj]
   ·rw [hc,ht];simp [vlen,hl]
   ·rcases vx.osl_inv with ⟨_,hv,_⟩|⟨_,o',cc,hv,_⟩
    ·exact ⟨_,_,_,hv⟩
    ·exact ⟨_,_,_,hv⟩
  ·exact h.elim
 ·exact h.elim
theorem subH_inv:∀{ids:List Nat} {H:Heap},subH ids ob=some H→H.map (·.1)=ids∧∀id o,find id H=some o→ob id=some o∧id∈ids
 | [],H,h=>by simp [subH] at h;subst h;exact ⟨rfl,fun id o h=>by simp [find] at h⟩
 | n :: r,H,h=>by
  simp only [subH] at h
  split at h
  ·rename_i o ho
   cases hr:subH r ob with
   | none=>rw [hr] at h;cases h
   | some H' =>
    rw [hr] at h
    simp at h;subst h
    obtain ⟨h1,h2⟩:=subH_inv hr
    refine ⟨by simp [h1],fun id o' h=>?_⟩
    by_cases e:id=n
    ·subst e
     simp [find] at h;subst h
     exact ⟨ho,List.mem_cons_self⟩
    ·have:Nat.beq id n=false:=by
      cases hb:Nat.beq id n with
      | true=>exact absurd (Nat.eq_of_beq_eq_true hb) e
      | false=>rfl
     simp only [find,this,cond_false] at h
     obtain ⟨h3,h4⟩:=h2 id o' h
     exact ⟨h3,List.mem_cons_of_mem _ h4⟩
  ·cases h
theorem subH_find {ids:List Nat} {H:Heap} (h:subH ids ob=some H) {id:Nat} (hid:id∈ids):∃o,find id H=some o:=by
 have h1:=(subH_inv h).1
 rw [←h1] at hid
 clear h h1
 induction H with
 | nil=>simp at hid
 | cons p H ih =>
  obtain ⟨m,o⟩:=p
  by_cases e:Nat.beq id m=true
  ·exact ⟨o,by simp [find,e]⟩
  ·have hne:¬id=m:=fun h=>e (by rw [h];exact Nat.beq_refl m)
   simp only [List.map_cons,List.mem_cons] at hid
   obtain ⟨o',ho'⟩:=ih (hid.resolve_left hne)
   have e':Nat.beq id m=false:=by
    cases hb:Nat.beq id m with
    | true=>exact absurd hb e
    | false=>rfl
   exact ⟨o',by simp only [find,e',cond_false];exact ho'⟩
theorem mem_inv {n:Nat}:∀{l:List Nat},mem n l=true→n∈l
 | [],h=>by simp [mem] at h
 | m::r,h=>by
  simp only [mem,Bool.or_eq_true] at h
  rcases h with h|h
  ·have:=Nat.eq_of_beq_eq_true h;subst this;exact List.mem_cons_self
  ·exact List.mem_cons_of_mem _ (mem_inv h)
theorem inIds_inv:∀{H:Heap} {ids news:List Nat},inIds H ids news=true→(∀id o,(id,o)∈H→id∈ids∨id∈news)∧∀id o,(id,o)∈H→find id H=some o
 | [],_,_,_=>⟨fun _ _ h=>by simp at h,fun _ _ h=>by simp at h⟩
 | (n,o1)::r,ids,news,h=>by
  simp only [inIds,Bool.and_eq_true,Bool.or_eq_true] at h
  obtain ⟨⟨h1,h2⟩,h3⟩:=h
  obtain ⟨k1,k2⟩:=inIds_inv h3
  refine ⟨fun id o ho=>?_,fun id o ho=>?_⟩
  ·rcases List.mem_cons.1 ho with ho|ho
   ·cases ho
    exact h1.imp mem_inv mem_inv
   ·exact k1 id o ho
  ·rcases List.mem_cons.1 ho with ho|ho
   ·cases ho;simp [find]
   ·have:=k2 id o ho
    by_cases e:id=n
    ·subst e
     rw [this] at h2;cases h2
    ·have e':Nat.beq id n=false:=by
      cases hb:Nat.beq id n with
      | true=>exact absurd (Nat.eq_of_beq_eq_true hb) e
      | false=>rfl
     simp only [find,e',cond_false];exact this
theorem HRel.sub {H H':Heap} (h:HRel P g w H) (hs:∀id o,find id H'=some o→find id H=some o):HRel P g w H' :=
 ⟨fun id o ho=>h.obj id o (hs id o ho),fun i j o o' hi hj=>h.inj i j o o' (hs i o hi) (hs j o' hj),fun id o ho=>h.sep id o (hs id o ho),h.lt,h.tabs⟩
theorem VR.bnd_inv {v:Value} {n:Nat} {cs:List V} (h:VR g w v (.fn (.yield n) cs)):∃vs:Array Value,v=.func (.func n) vs #[]∧vs.size=cs.length∧∀(i:Nat) (c:V),cs[i]?=some c→VR g w (vs.getD i undef) c:=by
 cases h with
 | rd h=>cases h
 | bnd n vs _ hl hr=>exact ⟨vs,rfl,hl,hr⟩
theorem s_call {f:Opd} {args:List Opd} {ids news:List Nat} (hok:(MIns.call f args ids news).ok P o.op=true) (hR:Rel P c g σ a w) (hob:∀id o,ob id=some o→find id σ.heap=some o) {d:Nat} (hcl:∀n∈news,Clean c σ n)
  (h:stepV P (.call f args ids news) d (f.ev σ.env::args.map (·.ev σ.env)) ob K L) (hF:Fin o c g σ a w K L K'):o.wp P a w K' Q':=by
 have:∃cl f',o.op=.call cl∧cl.callee=.value f'∧f.ok f'=true∧opdsOK args cl.args.toList=true:=by
  cases ho:o.op<;>rw [ho] at hok<;>try (simp [MIns.ok] at hok;done)
  rename_i cl
  obtain ⟨callee,args',ts⟩:=cl
  cases callee<;>try (simp [MIns.ok] at hok;done)
  simp only [MIns.ok,Bool.and_eq_true] at hok
  exact ⟨_,_,rfl,rfl,hok.1,hok.2⟩
 obtain ⟨cl,f',ho,hcal,hf,hargs⟩:=this
 have vf:=Opd.vr hR hf
 obtain ⟨hal,hav⟩:=opds_vr hR hargs
 simp only [stepV,sCall] at h
 split at h
 ·rename_i n cap hfn
  rw [hfn] at vf
  obtain ⟨vs,ef,hvl,hvr⟩:=vf.fn_inv
  split at h
  ·rename_i H hH
   obtain ⟨hcb,hcall⟩:=h
   obtain ⟨hdom,hsub⟩:=subH_inv hH
   have hHR:HRel P g w H:=hR.hp.sub fun id o ho=>hob id o (hsub id o ho).1
   have hAargs:=hcall g w (cl.args.map a.eval++vs) hHR (by simp [hal,hvl]) (fun i x hi=>by
    rw [List.getElem?_append] at hi
    simp only [List.length_map] at hi
    by_cases hlt:i<args.length
    ·rw [if_pos hlt] at hi
     have:=hav i x hi
     have e1:(cl.args.map a.eval++vs).getD i undef=(cl.args.toList.map a.eval).getD i undef:=by
      have:i<cl.args.size:=by simpa [hal] using hlt
      simp [Array.getD_eq_getD_getElem?,Array.getElem?_append,this]
     rw [e1];exact this
    ·rw [if_neg hlt] at hi
     have:=hvr (i - args.length) x hi
     have hsz:args.length=cl.args.size:=by simpa using hal
     have e1:(cl.args.map a.eval++vs).getD i undef=vs.getD (i - args.length) undef:=by
      simp [Array.getD_eq_getD_getElem?,Array.getElem?_append,←hsz,hlt]
     rw [e1];exact this)
   have hrun:(execOp a.eval o).run P w=.ok (.enter n (cl.args.map a.eval++vs)) w:=by
    unfold callable at hcb
    split at hcb
    ·rename_i fn hfn'
     simp only [Bool.and_eq_true,Bool.not_eq_true'] at hcb
     have hb:fn.body.isNone=false:=by
      cases hbo:fn.body with
      | none=>rw [hbo] at hcb;exact absurd hcb.2 (by simp)
      | some _=>rfl
     have hnm:¬fn.name = "runtime.NumGoroutine":=by simpa using hcb.1
     have hbb:¬fn.body=none:=by intro h;rw [h] at hb;cases hb
     simp [execOp,ho,resolve,hcal,ef,Deferred.ofValue,invoke,callFunc,hfn',hnm,hbb]
    ·cases hcb
   unfold Oper.wp
   rw [hrun]
   refine hAargs.mono ?_
   rintro e w' ⟨v,r,H',g',rfl,hq,hH',hv,hfr,hgh⟩
   by_cases hin:inIds H' ids news=true
   case neg=>simp [hin] at hq
   simp only [hin,cond_true] at hq
   obtain ⟨k1,k2⟩:=inIds_inv hin
   have hids:∀id∈ids,∃o,find id H=some o:=fun id hid=>subH_find hH hid
   have hdomf:∀id o,find id H=some o→id∈ids∧find id σ.heap=some o:=fun id o ho=>⟨(hsub id o ho).2,hob id o (hsub id o ho).1⟩
   have hM:∀b,(⟨w,g,H,0,[],[],H,g,w⟩:Ctx).M b→∃id o,id∈ids∧find id σ.heap=some o∧¬g.nil id∧g.ρ id=b:=by
    rintro b ⟨id,o,h1,h2,h3⟩
    exact ⟨id,o,(hdomf id o h1).1,(hdomf id o h1).2,h2,h3⟩
   have hmemE:∀id,id∈ids→id∈(Eff.mk r ids H').ids:=fun id hid=>by simp [Eff.ids,hid]
   refine hF ⟨r,ids,H'⟩ (.inr hq) g' v w' ⟨hfr.os,hfr.tape,hfr.output,hfr.size,fun b hb hb'=>hfr.old b hb fun hm=>?_,fun b hb=>hfr.sup b (.inl hb),fun b hb=>?_,hH'.lt,fun id hid=>hgh id ?_,fun id o ho=>hH'.obj id o (k2 id o ho),fun id o ho hn=>?_,
    fun i j o o' hi hj hni hnj=>hH'.inj i j o o' (k2 i o hi) (k2 j o' hj) hni hnj,fun id o ho hn=>hH'.sep id o (k2 id o ho) hn⟩ (fun id o ho=>?_) hv
   ·obtain ⟨id,o,h1,h2,h3,h4⟩:=hM b hm
    exact hb' id o (hmemE id h1) h2 h3 h4
   ·rcases (hfr.sub b hb).1 with h1|h1|h1
    ·exact .inl h1
    ·exact .inr (.inl h1)
    ·obtain ⟨id,o,h2,h3,h4,h5⟩:=hM b h1
     exact .inr (.inr ⟨id,o,hmemE id h2,h3,h4,h5⟩)
   ·cases hfd:find id H' with
    | none=>rfl
    | some o=>exact absurd (mem_of_find hfd) (hid o)
   ·rcases (hfr.own id o (k2 id o ho) hn).1 with h1|h1
    ·exact .inl h1
    ·obtain ⟨id',o',h2,h3,h4,h5⟩:=hM _ h1
     exact .inr ⟨id',o',hmemE id' h2,h3,h4,h5⟩
   ·rcases k1 id o ho with h1|h1
    ·obtain ⟨o',ho'⟩:=hids id h1
     exact .inl (hfr.par id o' ho')
    ·exact .inr ⟨(hcl id h1).1,fun s x hx=>noEnv_find (hcl id h1).2.1 hx,fun m o' hm _=>noHeap_find (hcl id h1).2.2 hm⟩
  ·exact h.elim
 ·rename_i n cap hfn
  rw [hfn] at vf
  obtain ⟨vs,ef,hvl,hvr⟩:=vf.bnd_inv
  split at h
  ·rename_i H hH
   obtain ⟨hcb,hcall⟩:=h
   obtain ⟨hdom,hsub⟩:=subH_inv hH
   have hHR:HRel P g w H:=hR.hp.sub fun id o ho=>hob id o (hsub id o ho).1
   have hAargs:=hcall g w (vs++cl.args.map a.eval) hHR (by simp [hal,hvl]) (fun i x hi=>by
    rw [List.getElem?_append] at hi
    by_cases hlt:i<cap.length
    ·rw [if_pos hlt] at hi
     have:=hvr i x hi
     have e1:(vs++cl.args.map a.eval).getD i undef=vs.getD i undef:=by
      have:i<vs.size:=by rw [hvl];exact hlt
      simp [Array.getD_eq_getD_getElem?,Array.getElem?_append,this]
     rw [e1];exact this
    ·rw [if_neg hlt] at hi
     have:=hav (i - cap.length) x hi
     have e1:(vs++cl.args.map a.eval).getD i undef=(cl.args.toList.map a.eval).getD (i - cap.length) undef:=by
      simp [Array.getD_eq_getD_getElem?,Array.getElem?_append,hvl,hlt]
     rw [e1];exact this)
   have hrun:(execOp a.eval o).run P w=.ok (.enter n (vs++cl.args.map a.eval)) w:=by
    unfold callable at hcb
    split at hcb
    ·rename_i fn hfn'
     simp only [Bool.and_eq_true,Bool.not_eq_true'] at hcb
     have hb:fn.body.isNone=false:=by
      cases hbo:fn.body with
      | none=>rw [hbo] at hcb;exact absurd hcb.2 (by simp)
      | some _=>rfl
     have hnm:¬fn.name = "runtime.NumGoroutine":=by simpa using hcb.1
     have hbb:¬fn.body=none:=by intro h;rw [h] at hb;cases hb
     simp [execOp,ho,resolve,hcal,ef,Deferred.ofValue,invoke,callFunc,hfn',hnm,hbb]
    ·cases hcb
   unfold Oper.wp
   rw [hrun]
   refine hAargs.mono ?_
   rintro e w' ⟨v,r,H',g',rfl,hq,hH',hv,hfr,hgh⟩
   by_cases hin:inIds H' ids news=true
   case neg=>simp [hin] at hq
   simp only [hin,cond_true] at hq
   obtain ⟨k1,k2⟩:=inIds_inv hin
   have hids:∀id∈ids,∃o,find id H=some o:=fun id hid=>subH_find hH hid
   have hdomf:∀id o,find id H=some o→id∈ids∧find id σ.heap=some o:=fun id o ho=>⟨(hsub id o ho).2,hob id o (hsub id o ho).1⟩
   have hM:∀b,(⟨w,g,H,0,[],[],H,g,w⟩:Ctx).M b→∃id o,id∈ids∧find id σ.heap=some o∧¬g.nil id∧g.ρ id=b:=by
    rintro b ⟨id,o,h1,h2,h3⟩
    exact ⟨id,o,(hdomf id o h1).1,(hdomf id o h1).2,h2,h3⟩
   have hmemE:∀id,id∈ids→id∈(Eff.mk r ids H').ids:=fun id hid=>by simp [Eff.ids,hid]
   refine hF ⟨r,ids,H'⟩ (.inr hq) g' v w' ⟨hfr.os,hfr.tape,hfr.output,hfr.size,fun b hb hb'=>hfr.old b hb fun hm=>?_,fun b hb=>hfr.sup b (.inl hb),fun b hb=>?_,hH'.lt,fun id hid=>hgh id ?_,fun id o ho=>hH'.obj id o (k2 id o ho),fun id o ho hn=>?_,
    fun i j o o' hi hj hni hnj=>hH'.inj i j o o' (k2 i o hi) (k2 j o' hj) hni hnj,fun id o ho hn=>hH'.sep id o (k2 id o ho) hn⟩ (fun id o ho=>?_) hv
   ·obtain ⟨id,o,h1,h2,h3,h4⟩:=hM b hm
    exact hb' id o (hmemE id h1) h2 h3 h4
   ·rcases (hfr.sub b hb).1 with h1|h1|h1
    ·exact .inl h1
    ·exact .inr (.inl h1)
    ·obtain ⟨id,o,h2,h3,h4,h5⟩:=hM b h1
     exact .inr (.inr ⟨id,o,hmemE id h2,h3,h4,h5⟩)
   ·cases hfd:find id H' with
    | none=>rfl
    | some o=>exact absurd (mem_of_find hfd) (hid o)
   ·rcases (hfr.own id o (k2 id o ho) hn).1 with h1|h1
    ·exact .inl h1
    ·obtain ⟨id',o',h2,h3,h4,h5⟩:=hM _ h1
     exact .inr ⟨id',o',hmemE id' h2,h3,h4,h5⟩
   ·rcases k1 id o ho with h1|h1
    ·obtain ⟨o',ho'⟩:=hids id h1
     exact .inl (hfr.par id o' ho')
    ·exact .inr ⟨(hcl id h1).1,fun s x hx=>noEnv_find (hcl id h1).2.1 hx,fun m o' hm _=>noHeap_find (hcl id h1).2.2 hm⟩
  ·exact h.elim
 ·exact h.elim
theorem s_mks {x:Opd} (hok:(MIns.mks x).ok P o.op=true) (hR:Rel P c g σ a w) (hob:∀id o,ob id=some o→find id σ.heap=some o) {d:Nat} (h:stepV P (.mks x) d [x.ev σ.env] ob K L) (hF:Fin o c g σ a w K L K'):o.wp P a w K' Q':=by
 have:∃s y e,o.op=.convert s s y∧x.ok y=true∧P.underlying s=some (.slice e)∧P.underlying e=some (.int .u8):=by
  cases ho:o.op<;>rw [ho] at hok<;>try (simp [MIns.ok] at hok;done)
  rename_i s dd y
  simp only [MIns.ok,Bool.and_eq_true,isByteSlice] at hok
  obtain ⟨⟨h1,h2⟩,h3⟩:=hok
  have e1:=Nat.eq_of_beq_eq_true h2;subst e1
  split at h3<;>try (cases h3;done)
  rename_i e hu
  simp only [Bool.and_eq_true] at h3
  refine ⟨s,y,e,rfl,h1,hu,?_⟩
  have:=h3.1
  split at this<;>first|assumption|cases this
 obtain ⟨s,y,e,ho,hx,hs,he⟩:=this
 have vx:=Opd.vr hR hx
 simp only [stepV,sMks] at h
 split at h
 ·rename_i id k lo n hc
  rw [hc] at vx
  split at h
  ·rename_i k' xs t0 hobj
   by_cases hb:(Nat.beq k k'&&Nat.beq k 1&&Nat.blt 0 n)=true
   case neg=>simp [hb] at h
   simp only [hb,cond_true] at h
   simp only [Bool.and_eq_true] at hb
   have q1:=Nat.eq_of_beq_eq_true hb.1.1;subst q1
   have q2:=Nat.eq_of_beq_eq_true hb.1.2;subst q2
   have hn0:0<n:=by have:=hb.2;simp [Nat.blt] at this;omega
   have hfd:=hob _ _ hobj
   rcases vx.osl_inv with ⟨_,_,h0⟩|⟨hnn,o',cc,ev,ho',hcap,hlc,hm⟩
   ·omega
   rcases hR.hp.obj _ _ hfd with ⟨hnil,_⟩|⟨_,hkp,⟨cur,e1,fz,h1,h2,⟨h3,h4⟩,h5⟩,h6,h7,h8⟩
   ·exact absurd hnil hnn
   have hsh:w.shape? (g.ρ id)=some (e1,cur.size):=by simp [World.shape?,h1]
   have hrun:(execOp a.eval o).run P w=.ok (.value (a.eval y)) (w.freeze ⟨g.ρ id,cur.size,none⟩ 1):=by
    simp only [execOp,ho,ev]
    refine exec_v ?_
    simp [convert,run_underlying hs,run_underlying he,markStringish,hsh]
   obtain ⟨fz',hfz,hun⟩:∃fz',(w.freeze ⟨g.ρ id,cur.size,none⟩ 1).heap[g.ρ id]?=some (.cells cur e1 fz')∧unfrozen fz' cur.size:=by
    obtain ⟨lo',hi'⟩:=fz
    refine ⟨if lo'==hi' then (cur.size,cur.size+1) else (min lo' cur.size,max hi' (cur.size+1)),?_,?_⟩
    ·simp [World.freeze,Array.getElem?_modify,h1]
    ·simp only [unfrozen] at h3 ⊢
     split
     ·exact .inr (Nat.le_refl _)
     ·rename_i hne
      simp only [beq_iff_eq] at hne
      right;simp only;omega
   have hother:∀b,b≠g.ρ id→(w.freeze ⟨g.ρ id,cur.size,none⟩ 1).heap[b]?=w.heap[b]?:=by
    intro b hb
    simp only [World.freeze,Nat.succ_ne_zero,if_false,Array.getElem?_modify]
    rw [if_neg fun e=>hb e.symm]
   have hkeep:Keep g.S w (w.freeze ⟨g.ρ id,cur.size,none⟩ 1):=Keep.upd hR.hp hfd hnn hother
   refine Fin.mk' hF h hrun (StepOK.upd _ id _ _ hR.hp hfd hnn (by simp [World.freeze]) (by simp [World.freeze]) (by simp [World.freeze]) (by simp [World.freeze]) hother ?_) (Fresh.upd _) ?_
   ·exact .inr ⟨hnn,hkp,⟨cur,e1,fz',hfz,h2,⟨hun,tyF_ok h4⟩,fun i j x y hi hj=>(h5 i j x y hi hj).mono hkeep fun _ h=>h⟩,h6,h7,h8⟩
   ·exact vx.mono (g':=g) hkeep (fun _ h=>h) fun _ _=>Gh.agree.refl _ _
  ·exact h.elim
 ·exact h.elim
theorem arr_of {t:TypeId} {cnt k:Nat} (h:arrIs P t cnt k=true):∃e,P.underlying t=some (.array cnt e)∧∀w':World,(Go.sizeOf e).run P w'=.ok k w':=by
 unfold arrIs at h
 split at h<;>try (cases h;done)
 rename_i n e hu
 simp only [Bool.and_eq_true] at h
 have:=Nat.eq_of_beq_eq_true h.1;subst this
 exact ⟨e,hu,sizeIs_run h.2⟩
theorem s_aix {n:Option Nat} {k cnt:Nat} {x i:Opd} (hok:(MIns.aix n k cnt x i).ok P o.op=true) (hR:Rel P c g σ a w) {d:Nat} (h:stepV P (.aix n k cnt x i) d [x.ev σ.env,i.ev σ.env] ob K L) (hF:Fin o c g σ a w K L K'):o.wp P a w K' Q':=by
 have:∃t y z,o.op=.index t y z∧x.ok y=true∧i.ok z=true∧arrIs P t cnt k=true∧(match P.underlying t with|some (.array _ e)=>decide (aggN P e=some n)|_=>false)=true:=by
  cases ho:o.op<;>rw [ho] at hok<;>try (simp [MIns.ok] at hok;done)
  simp only [MIns.ok,Bool.and_eq_true] at hok
  exact ⟨_,_,_,rfl,hok.1.1.1,hok.1.1.2,hok.1.2,hok.2⟩
 obtain ⟨t,y,z,ho,hx,hi,ht,hn⟩:=this
 obtain ⟨e,hu,hsz⟩:=arr_of ht
 rw [hu] at hn
 simp only [decide_eq_true_eq] at hn
 have vx:=Opd.vr hR hx
 have vi:=Opd.vr hR hi
 simp only [stepV,sAix] at h
 split at h
 ·rename_i cs kk m hc hm
  rw [hc] at vx;rw [hm] at vi
  obtain ⟨vs,hv,hl,hr⟩:=vx.agg_inv
  obtain ⟨ei,_⟩:=vi.int_inv
  obtain ⟨⟨h0,h1⟩,h⟩:=h
  obtain ⟨off,hoff⟩:∃off,off=m.toNat*k:=⟨_,rfl⟩
  rw [←hoff] at h
  obtain ⟨x',hk,hx'⟩:=part_inv h
  rcases hx' with ⟨rfl,hx'⟩|⟨q,rfl,hq,rfl⟩
  ·have hlt:off<vs.size:=by rw [hl];exact (List.getElem?_eq_some_iff.1 hx').1
   refine fin_val hR hF (v:=vs.getD off undef) ?_ (.inl hk) (hr off x' hx')
   simp [execOp,ho,Instr.index,run_underlying hu,ei,asIntOf,hv,Go.part,aggN_none hn w,Array.getD_eq_getD_getElem?,hlt,h0,h1,hsz w,←hoff]
  ·obtain ⟨h2,h3⟩:=aggN_some hn
   refine fin_val hR hF (v:=.agg (vs.extract off (off+q))) ?_ (.inl hk) (.agg _ _ (by simp;omega) fun i p hi=>?_)
   ·have hkq:k=q:=by
     have a1:=hsz w
     rw [h3 w] at a1
     cases a1;rfl
    subst hkq
    simp [execOp,ho,Instr.index,run_underlying hu,ei,asIntOf,hv,Go.part,h2 w,h3 w,h0,h1,←hoff]
   ·rw [List.getElem?_take] at hi
    split at hi
    ·rename_i him
     have hi':cs[off+i]?=some p:=by simpa using hi
     have hq:=hr (off+i) p hi'
     have hlt:off+i<vs.size:=by rw [hl];exact (List.getElem?_eq_some_iff.1 hi').1
     have e1:(vs.extract off (off+q)).getD i undef=vs.getD (off+i) undef:=by
      have h3:i<min (off+q) vs.size - off:=by omega
      simp [Array.getD_eq_getD_getElem?,hlt,h3]
     rw [e1];exact hq
    ·cases hi
 ·exact h.elim
theorem s_aad {k cnt:Nat} {x i:Opd} (hok:(MIns.aad k cnt x i).ok P o.op=true) (hR:Rel P c g σ a w) {d:Nat} (h:stepV P (.aad k cnt x i) d [x.ev σ.env,i.ev σ.env] ob K L) (hF:Fin o c g σ a w K L K'):o.wp P a w K' Q':=by
 have:∃t y z,o.op=.indexAddr t y z∧x.ok y=true∧i.ok z=true∧arrIs P t cnt k=true∧Nat.blt 1 cnt=true:=by
  cases ho:o.op<;>rw [ho] at hok<;>try (simp [MIns.ok] at hok;done)
  simp only [MIns.ok,Bool.and_eq_true] at hok
  exact ⟨_,_,_,rfl,hok.1.1.1,hok.1.1.2,hok.1.2,hok.2⟩
 obtain ⟨t,y,z,ho,hx,hi,ht,hn⟩:=this
 obtain ⟨e,hu,hsz⟩:=arr_of ht
 have vx:=Opd.vr hR hx
 have vi:=Opd.vr hR hi
 have add_eq:∀b n m:Nat,(⟨b,n,none⟩:Addr).add m=⟨b,n+m,none⟩:=fun b n m=>Addr.add_lit b n m
 have hrun:∀(ad:Addr) (kk:IntKind) (m:Int),a.eval y=.pointer (some ad)→a.eval z=.int kk m→0≤m→m<cnt→(execOp a.eval o).run P w=.ok (.value (.pointer (some (ad.add (m.toNat*k))))) w:=by
  intro ad kk m e1 e2 h0 h1
  simp [execOp,ho,Instr.indexAt,run_underlying hu,e1,e2,asIntOf,Instr.sureAddr,h0,h1,hsz w]
 simp only [stepV,sAad] at h
 split at h
 ·rename_i id of kk m hc hm
  rw [hc] at vx;rw [hm] at vi
  obtain ⟨ei,_⟩:=vi.int_inv
  obtain ⟨⟨h0,h1⟩,h⟩:=h
  refine fin_val hR hF (hrun _ kk m vx.ptr_inv ei h0 h1) (.inl h) ?_
  rw [add_eq];exact .ptr _ _
 ·rename_i yv of kk m hc hm
  rw [hc] at vx;rw [hm] at vi
  obtain ⟨ei,_⟩:=vi.int_inv
  obtain ⟨⟨h0,h1⟩,h⟩:=h
  obtain ⟨b,o',cur,e,fz,hv,hS,hg,hb,hr⟩:=vx.eptr_inv
  refine fin_val hR hF (hrun _ kk m hv ei h0 h1) (.inl h) ?_
  rw [add_eq,Nat.add_assoc];exact .eptr b o' _ cur e fz _ hS hg hb hr
 ·exact h.elim
theorem arrParts_get {k:Nat}:∀{vs:List V} {n i:Nat} {q:Nat×Nat×V},(arrParts k n vs)[i]?=some q→∃x,vs[i]?=some x∧q=((n+i)*k,k,x)
 | [],n,i,q,h=>by simp [arrParts] at h
 | x::r,n,i,q,h=>by
  cases i with
  | zero=>simp [arrParts] at h;exact ⟨x,rfl,h.symm⟩
  | succ i =>
   simp [arrParts] at h
   obtain ⟨y,h1,h2⟩:=arrParts_get h
   exact ⟨y,by simpa using h1,by rw [h2];congr 2;omega⟩
theorem arrParts_len {k:Nat}:∀{vs:List V} {n:Nat},(arrParts k n vs).length=vs.length
 | [],_=>rfl
 | x::r,n=>by simp [arrParts,arrParts_len]
theorem s_barr {k:Nat} {zs:List V} {xs:List Opd} (hok:(MIns.barr k zs xs).ok P o.op=true) (hR:Rel P c g σ a w) {d:Nat} (h:stepV P (.barr k zs xs) d (xs.map (·.ev σ.env)) ob K L) (hF:Fin o c g σ a w K L K'):o.wp P a w K' Q':=by
 have:∃t parts n e,o.op=.build t parts∧zeroOK P t zs=true∧P.underlying t=some (.array n e)∧sizeIs P e k=true∧elsOK 0 xs parts.toList=true:=by
  cases ho:o.op<;>rw [ho] at hok<;>try (simp [MIns.ok] at hok;done)
  rename_i t parts
  simp only [MIns.ok,Bool.and_eq_true] at hok
  obtain ⟨⟨h1,h2⟩,h3⟩:=hok
  split at h2<;>try (cases h2;done)
  rename_i n e hu
  exact ⟨t,parts,n,e,rfl,h1,hu,h2,h3⟩
 obtain ⟨t,parts,n,e,ho,hz,hu,hsz,hp⟩:=this
 obtain ⟨z,hzr,hzl,hzv⟩:=zero_of hz
 obtain ⟨hlen,hparts⟩:=elsOK_inv hp
 simp only [stepV] at h
 split at h
 ·rename_i cs hfill
  obtain ⟨cells',r1,r2,r3⟩:=fill_fillV (g:=g) (w0:=w) (fun i=>some (i*k,k)) (parts.toList.map fun q=>(q.1,a.eval q.2)) (arrParts k 0 (xs.map (·.ev σ.env))) z.cells zs cs (by simp [arrParts_len,hlen])
   (fun i pt q hi hq=>by
    obtain ⟨x,h1,h2⟩:=arrParts_get hq
    rw [List.getElem?_map] at hi h1
    cases hpi:parts.toList[i]? with
    | none=>rw [hpi] at hi;cases hi
    | some p0 =>
     cases hqi:xs[i]? with
     | none=>rw [hqi] at h1;cases h1
     | some q0 =>
      rw [hpi] at hi;rw [hqi] at h1
      simp at hi h1;subst hi;subst h2
      obtain ⟨k1,k2⟩:=hparts i q0 p0 hqi hpi
      refine ⟨by simp [k1],?_⟩
      rw [←h1];exact Opd.vr hR k2)
   hzl (fun i x hx=>.rd (hzv g.S w i x hx).1) hfill
  have hbuild:(Instr.build t (parts.map fun (i,x)=>(i,a.eval x))).run P w=.ok (.agg cells') w:=by
   simp only [Instr.build,Sem.run_bind,hzr w,Result.andThen_ok,run_underlying hu,sizeIs_run hsz w]
   have e2:(parts.map fun (i,x)=>(i,a.eval x)).toList=parts.toList.map fun q=>(q.1,a.eval q.2):=by simp
   rw [e2,r1]
   rfl
  refine fin_val hR hF (v:=.agg cells') ?_ (.inl h) (.agg _ _ r2 r3)
  simp only [execOp,ho]
  exact exec_v hbuild
 ·exact h.elim
theorem s_ls2b {x:Opd} (hok:(MIns.ls2b x).ok P o.op=true) (hR:Rel P c g σ a w) {d0:Nat} (h:stepV P (.ls2b x) d0 [x.ev σ.env] ob K L) (hF:Fin o c g σ a w K L K'):o.wp P a w K' Q':=by
 obtain ⟨d,hcl,hfr⟩:=fresh_id c σ
 have hok':(MIns.s2b x).ok P o.op=true:=by
  cases ho:o.op<;>rw [ho] at hok<;>try (simp [MIns.ok] at hok;done)
  exact hok
 simp only [stepV,sLs2b] at h
 split at h
 ·rename_i s hs
  refine s_s2b (K:=fun e=>e=⟨.osl d 1 0 (s.map byteV).length,[],[(d,.arr 1 (s.map byteV))]⟩) (L:=fun _=>False) (d:=d) (ob:=ob) hok' hR hcl ?_ fun eff he g' v w' h1 h2 h3=>?_
  ·simp only [stepV,sS2b,hs,List.length_map]
  ·rcases he with rfl|he
   ·obtain ⟨g'',k1,k2⟩:=born_sealed h1 h3 hfr
    exact hF _ (.inl h) g'' v w' k1 (fun _ _ h=>by simp [evl] at h) k2
   ·exact he.elim
 ·exact h.elim
theorem ins_sound (i:MIns) {d:Nat} (hok:i.ok P o.op=true) (hR:Rel P c g σ a w) (hob:∀id o,ob id=some o→find id σ.heap=some o) (hcl:∀n∈i.creates d,Clean c σ n)
  (h:stepV P i d (i.opds.map (·.ev σ.env)) ob K L) (hF:Fin o c g σ a w K L K'):o.wp P a w K' Q':=by
 cases i with
 | mv x=>exact s_mv hok hR h hF
 | pick c a b=>exact s_pick hok hR h hF
 | alloc zs=>exact s_alloc hok hR (hcl d (by simp [MIns.creates])) h hF
 | box x=>exact s_box hok hR (hcl d (by simp [MIns.creates])) h hF
 | build zs ps =>
  refine s_build (d:=d) (ob:=ob) (L:=L) (K:=K) hok hR ?_ hF
  have:ps.map (fun p=>p.2.2.ev σ.env)=(MIns.build zs ps).opds.map (·.ev σ.env):=by simp [MIns.opds]
  rw [this];exact h
 | bslice k xs uv=>exact s_bslice hok hR (hcl d (by simp [MIns.creates])) h hF
 | ld n a=>exact s_ld hok hR hob h hF
 | st n a v=>exact s_st hok hR hob h hF
 | nck a=>exact s_nck hok hR h hF
 | bin ch op x y=>exact s_bin hok hR h hF
 | mask m x k=>exact s_mask hok hR h hF
 | beq ng x y=>exact s_beq hok hR h hF
 | eqs ng ks x y=>exact s_eqs hok hR h hF
 | not x=>exact s_not hok hR h hF
 | neg ch x=>exact s_neg hok hR h hF
 | i2i ch k x=>exact s_i2i hok hR h hF
 | idc x=>exact s_idc hok hR h hF
 | mks x=>exact s_mks hok hR hob h hF
 | s2b x=>exact s_s2b hok hR (hcl d (by simp [MIns.creates])) h hF
 | b2s x=>exact s_b2s hok hR hob h hF
 | mkfn f cap=>exact s_mkfn hok hR h hF
 | mksl k bytes z l c=>exact s_mksl hok hR (hcl d (by simp [MIns.creates])) h hF
 | sls x lo hi=>exact s_sls hok hR h hF
 | slc k x lo hi=>exact s_slc hok hR h hF
 | fad off x=>exact s_fad hok hR h hF
 | fld n off x=>exact s_fld hok hR h hF
 | iad k x i=>exact s_iad hok hR h hF
 | idx x i=>exact s_idx hok hR h hF
 | aix n k cnt x i=>exact s_aix hok hR h hF
 | aad k cnt x i=>exact s_aad hok hR h hF
 | barr k zs xs=>exact s_barr hok hR h hF
 | lsl k xs=>exact s_lsl hok hR h hF
 | ls2b x=>exact s_ls2b hok hR h hF
 | ext i x=>exact s_ext hok hR h hF
 | len s x=>exact s_len hok hR h hF
 | app k bytes x y=>exact s_app hok hR hob (hcl d (by simp [MIns.creates])) h hF
 | mm mx x y=>exact s_mm hok hR h hF
 | mp m xs=>exact s_mp hok hR hob hcl h hF
 | call f args ids news=>exact s_call hok hR hob (fun n hn=>hcl n (by simpa [MIns.creates] using hn)) h hF
end
end Go.Ab
