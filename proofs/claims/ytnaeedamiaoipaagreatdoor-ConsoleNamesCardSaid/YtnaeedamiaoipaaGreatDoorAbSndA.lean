/- The abstract layer, part 5: each instruction is true of the operation that it stands for (values and addresses). -/
import Derived.Test.YtnaeedamiaoipaaGreatDoorAbOK
set_option linter.all false
namespace Go.Ab
open Go.RowKit
def Fin (o:Oper) (c:Ctx) (g:Gh) (σ:St) (a:Act) (w:World) (K L:Eff→Prop) (K':Act→World→Prop):Prop :=
 ∀eff,(K eff∨L eff)→∀(g':Gh) (v:Value) (w':World),StepOK g σ.heap w eff g' w'→Fresh c.H0 g g' σ eff→VR g' w' v eff.val→K' (a.put o.dst v) w'
section
variable {P:Program} {o:Oper} {c:Ctx} {g:Gh} {σ:St} {a:Act} {w:World} {ob:Nat→Option Obj'} {K L:Eff→Prop} {K':Act→World→Prop} {Q':Exit→Act→World→Prop}
theorem Opd.vr (hR:Rel P c g σ a w) {x:Opd} {y:Operand} (h:x.ok y=true):VR g w (a.eval y) (x.ev σ.env):=by
 cases x with
 | t n =>
  cases y<;>simp [Opd.ok] at h
  rename_i m
  subst h
  simp only [Opd.ev,get_find,Act.eval]
  cases hf:find n σ.env with
  | none=>exact .any _
  | some x=>exact (hR.env n x hf).2
 | c v =>
  cases y<;>simp [Opd.ok] at h
  exact .rd (cOK_rd h)
 | f n =>
  cases y<;>simp [Opd.ok] at h
  subst h
  exact .fn _ #[] [] rfl (fun i c h=>by simp at h)
theorem fin_val (hR:Rel P c g σ a w) (hF:Fin o c g σ a w K L K') {x:V} {v:Value} (hrun:(execOp a.eval o).run P w=.ok (.value v) w) (hk:K ⟨x,[],[]⟩∨L ⟨x,[],[]⟩) (hv:VR g w v x):o.wp P a w K' Q':=by
 unfold Oper.wp
 rw [hrun]
 exact hF _ hk g v w (StepOK.val x hR.hp.lt rfl rfl rfl rfl) (Fresh.val x) hv
theorem exec_v {s:Sem Value} {v:Value} {w w':World} (h:s.run P w=.ok v w'):(do pure (Next.value (←s)):Sem Next).run P w=.ok (.value v) w':=by
 simp [h]
theorem VR.int_inv {v:Value} {k:IntKind} {n:Int} (h:VR g w v (.int k n)):v=.int k n∧inR k n:=by
 cases h with|rd h=>cases h with|int _ _ h=>exact ⟨rfl,h⟩
theorem VR.bool_inv {v:Value} {b:Bool} (h:VR g w v (.bool b)):v=.bool b:=by
 cases h with|rd h=>cases h;rfl
theorem VR.str_inv {v:Value} {s:List UInt8} (h:VR g w v (.str s)):∃t:ByteArray,v=.string t∧t.data.toList=s∧t.size≤maxLen:=by
 cases h with|rd h=>cases h with|str t ht=>exact ⟨t,rfl,rfl,ht⟩
theorem VR.ptr_inv {v:Value} {id off:Nat} (h:VR g w v (.ptr id off)):v=.pointer (some ⟨g.ρ id,off,none⟩):=by
 cases h with
 | rd h=>cases h
 | ptr=>rfl
theorem VR.optr_inv {v:Value} {id k i off:Nat} (h:VR g w v (.optr id k i off)):v=.pointer (some ⟨g.ρ id,(g.base id+i)*k+off,none⟩):=by
 cases h with
 | rd h=>cases h
 | optr=>rfl
theorem VR.bptr_inv {v:Value} {id:Nat} (h:VR g w v (.bptr id)):v=.pointer none∨v=.pointer (some ⟨g.ρ id,0,none⟩):=by
 cases h with
 | rd h=>cases h
 | bnil=>exact .inl rfl
 | bself=>exact .inr rfl
theorem VR.omap_inv {v:Value} {id:Nat} (h:VR g w v (.omap id)):v=.map (some (g.ρ id)):=by
 cases h with
 | rd h=>cases h
 | omap=>rfl
theorem VR.nils_inv {v:Value} (h:VR g w v .nils):v=.slice none 0 0:=by
 cases h with|rd h=>cases h;rfl
theorem VR.eptr_inv {v:Value} {x:V} {off:Nat} (h:VR g w v (.eptr x off)):∃(b o:Nat) (cur:Array Value) (e:TypeId) (fz:Nat×Nat),v=.pointer (some ⟨b,o+off,none⟩)∧g.S b∧w.heap[b]?=some (.cells cur e fz) ∧
  o+x.cells.length≤cur.size∧∀(j:Nat) (c:V),x.cells[j]?=some c→Rd g.S w (cur.getD (o+j) undef) c:=by
 cases h with
 | rd h=>cases h
 | eptr b o off cur e fz x hS hg hb hr=>exact ⟨b,o,cur,e,fz,rfl,hS,hg,hb,hr⟩
theorem VR.osl_inv {v:Value} {id k lo len:Nat} (h:VR g w v (.osl id k lo len)):(g.nil id∧v=.slice none 0 0∧len=0) ∨
  (¬g.nil id∧∃o c,v=.slice (some ⟨g.ρ id,o,none⟩) len c∧(c=0∨o=(g.base id+lo)*k)∧lo+c≤g.cap id∧len≤c∧c≤maxLen):=by
 cases h with
 | rd h=>cases h
 | oslnil _ _ _ h=>exact .inl ⟨h,rfl,rfl⟩
 | osl _ _ _ _ o c h ho hc hl hm=>exact .inr ⟨h,o,c,rfl,ho,hc,hl,hm⟩
theorem VR.sl_inv {v:Value} {xs:List V} (h:VR g w v (.sl xs)):Rd g.S w v (.sl xs):=by
 cases h with|rd h=>exact h
theorem VR.agg_inv {v:Value} {cs:List V} (h:VR g w v (.agg cs)):∃vs:Array Value,v=.agg vs∧vs.size=cs.length∧∀(i:Nat) (c:V),cs[i]?=some c→VR g w (vs.getD i undef) c:=by
 cases h with
 | rd h =>
  obtain ⟨vs,rfl,hl,hr⟩:=h.agg_inv
  exact ⟨vs,rfl,hl,fun i c hc=>.rd (hr i c hc)⟩
 | agg vs _ hl hr=>exact ⟨vs,rfl,hl,hr⟩
theorem VR.tup_inv {v:Value} {cs:List V} (h:VR g w v (.tup cs)):∃vs:Array Value,v=.tuple vs∧vs.size=cs.length∧∀(i:Nat) (c:V),cs[i]?=some c→VR g w (vs.getD i undef) c:=by
 cases h with
 | rd h=>cases h
 | tup vs _ hl hr=>exact ⟨vs,rfl,hl,hr⟩
theorem VR.fn_inv {v:Value} {n:Nat} {cs:List V} (h:VR g w v (.fn (.func n) cs)):∃vs:Array Value,v=.func (.func n) #[] vs∧vs.size=cs.length∧∀(i:Nat) (c:V),cs[i]?=some c→VR g w (vs.getD i undef) c:=by
 cases h with
 | rd h=>cases h;exact ⟨#[],rfl,rfl,fun i c hc=>by simp at hc⟩
 | fn _ vs _ hl hr=>exact ⟨vs,rfl,hl,hr⟩
theorem VR.sc_rd {v:Value} {x:V} (h:VR g w v x) (hs:x.sc=true):Rd g.S w v x:=by
 cases h with
 | fn n vs cs hl hr=>cases cs with
  | nil=>rw [Array.eq_empty_of_size_eq_zero hl];exact .fnc n
  | cons=>simp [V.sc] at hs
 | _=>first|assumption|(simp [V.sc] at hs)
theorem VR.sealed_rd {v:Value} {x:V} (h:VR g w v x) (hs:x.sealed=true):Rd g.S w v x:=by
 cases x with
 | agg cs =>
  obtain ⟨vs,rfl,hl,hr⟩:=h.agg_inv
  refine .agg vs cs hl fun i c hc=>(hr i c hc).sc_rd ?_
  simp only [V.sealed,List.all_eq_true] at hs
  exact hs c (List.mem_of_getElem? hc)
 | _=>exact h.sc_rd hs
theorem VR.nsl_val {z k:Nat} {xs:List V} {v:Value} (h:VR g w v (.nsl z k xs)):∃p l c,v=.slice p l c:=by
 cases h with
 | rd h=>cases h
 | nsl _ _ _ _ h =>
  rcases h with ⟨rfl,_⟩|⟨b,o,base,cap,c,rfl,_⟩
  ·exact ⟨_,_,_,rfl⟩
  ·exact ⟨_,_,_,rfl⟩
theorem VR.nsmap_val {z k:Nat} {kd:KD} {es:List (V×V)} {v:Value} (h:VR g w v (.nsmap z k kd es)):∃b,v=.map (some b):=by
 cases h with
 | rd h=>cases h
 | nsmap b=>exact ⟨b,rfl⟩
theorem VR.one_cell {v:Value} {x:V} (h:VR g w v x) (hs:x.one=true):v.oneCell'=true:=by
 cases h with
 | rd h=>cases h<;>first|rfl|(simp [V.one] at hs)
 | any=>simp [V.one] at hs
 | at_=>simp [V.one] at hs
 | agg=>simp [V.one] at hs
 | tup=>simp [V.one] at hs
 | nsl z k xs v hn=>obtain ⟨p,l,c,rfl⟩:=VR.nsl_val (.nsl z k xs v hn);rfl
 | _=>rfl
theorem VR.cells_of {v:Value} {x:V} (h:VR g w v x) (hx:x.nany=true):v.cells.size=x.cells.length∧∀(i:Nat) (c:V),x.cells[i]?=some c→VR g w (v.cells.getD i undef) c:=by
 have one:∀{v:Value} {x:V},VR g w v x→v.cells=#[v]→x.cells=[x]→v.cells.size=x.cells.length∧∀(i:Nat) (c:V),x.cells[i]?=some c→VR g w (v.cells.getD i undef) c:=by
  intro v x h h1 h2
  rw [h1,h2]
  refine ⟨rfl,fun i c hc=>?_⟩
  cases i with
  | zero=>simp at hc;subst hc;simpa using h
  | succ i=>simp at hc
 cases x with
 | agg cs =>
  obtain ⟨vs,rfl,hl,hr⟩:=h.agg_inv
  exact ⟨hl,hr⟩
 | any=>cases hx
 | at_=>cases hx
 | adr b off=>cases h with|rd h=>cases h;exact one (.rd (.adr b off)) rfl rfl
 | bool b=>exact one h (by rw [h.bool_inv];rfl) rfl
 | int k n=>exact one h (by rw [h.int_inv.1];rfl) rfl
 | str s=>obtain ⟨t,rfl,_⟩:=h.str_inv;exact one h rfl rfl
 | nils=>exact one h (by rw [h.nils_inv];rfl) rfl
 | nilp=>cases h with|rd h=>cases h;exact one (.rd .nilp) rfl rfl
 | ifc b=>cases h with|rd h=>cases h with
  | ifcn=>exact one (.rd .ifcn) rfl rfl
  | ifcs t p=>exact one (.rd (.ifcs t p)) rfl rfl
 | nilm=>cases h with|rd h=>cases h;exact one (.rd .nilm) rfl rfl
 | nilf=>cases h with|rd h=>cases h;exact one (.rd .nilf) rfl rfl
 | nili=>cases h with|rd h=>cases h;exact one (.rd .nili) rfl rfl
 | tup cs=>obtain ⟨vs,rfl,_⟩:=h.tup_inv;exact one h rfl rfl
 | sl xs =>
  have h':=h.sl_inv
  cases h' with
  | nilsl=>exact one h rfl rfl
  | slz=>exact one h rfl rfl
  | sl=>exact one h rfl rfl
 | ptr id off=>exact one h (by rw [h.ptr_inv];rfl) rfl
 | eptr x off=>obtain ⟨b,o,cur,e,fz,rfl,_⟩:=h.eptr_inv;exact one h rfl rfl
 | osl id k lo len=>rcases h.osl_inv with ⟨_,rfl,_⟩|⟨_,o,c,rfl,_⟩<;>exact one h rfl rfl
 | optr id k i off=>exact one h (by rw [h.optr_inv];rfl) rfl
 | omap id=>exact one h (by rw [h.omap_inv];rfl) rfl
 | bptr id=>exact one h (by rcases h.bptr_inv with e|e<;>rw [e]<;>rfl) rfl
 | smap kd es=>cases h with|rd h=>cases h with|smap b kd ents clock es hS hg hl hk hb hn hr1 hr2=>exact one (.rd (.smap b kd ents clock es hS hg hl hk hb hn hr1 hr2)) rfl rfl
 | fn f cs=>cases h with
  | rd h=>cases h with|fnc n=>exact one (.rd (.fnc n)) rfl rfl
  | fn _ vs _ hl hr=>exact one (.fn _ vs _ hl hr) rfl rfl
  | bnd n vs _ hl hr=>exact one (.bnd n vs _ hl hr) rfl rfl
 | nsl z k xs=>obtain ⟨p,l,c,rfl⟩:=h.nsl_val;exact one h rfl rfl
 | nsmap z k kd es=>obtain ⟨b,rfl⟩:=h.nsmap_val;exact one h rfl rfl
theorem s_mv {x:Opd} (hok:(MIns.mv x).ok P o.op=true) (hR:Rel P c g σ a w) {d:Nat} (h:stepV P (.mv x) d [x.ev σ.env] ob K L) (hF:Fin o c g σ a w K L K'):o.wp P a w K' Q':=by
 have:∃y,(o.op=.move y∨o.op=.assign y)∧x.ok y=true:=by
  cases ho:o.op<;>simp [MIns.ok,ho] at hok
  ·exact ⟨_,.inl rfl,hok⟩
  ·exact ⟨_,.inr rfl,hok⟩
 obtain ⟨y,ho,hx⟩:=this
 refine fin_val hR hF (v:=a.eval y) ?_ (.inl h) (Opd.vr hR hx)
 rcases ho with ho|ho<;>simp [execOp,ho]
theorem s_pick {x y z:Opd} (hok:(MIns.pick x y z).ok P o.op=true) (hR:Rel P c g σ a w) {d:Nat} (h:stepV P (.pick x y z) d [x.ev σ.env,y.ev σ.env,z.ev σ.env] ob K L) (hF:Fin o c g σ a w K L K'):o.wp P a w K' Q':=by
 cases ho:o.op<;>simp [MIns.ok,ho] at hok
 rename_i x' y' z'
 obtain ⟨⟨hx,hy⟩,hz⟩:=hok
 have vx:=Opd.vr hR hx
 have vy:=Opd.vr hR hy
 have vz:=Opd.vr hR hz
 simp only [stepV,sPick,evl] at h
 cases hc:x.ev σ.env<;>simp only [hc] at h<;>try exact h.elim
 rename_i t
 rw [hc] at vx
 have hrun:(execOp a.eval o).run P w=.ok (.value (if t then a.eval y' else a.eval z')) w:=by
  simp [execOp,ho,vx.bool_inv,asBool]
 have gen:∀r,K ⟨r,[],[]⟩→VR g w (if t then a.eval y' else a.eval z') r→o.wp P a w K' Q':=fun r hk hv=>fin_val hR hF hrun (.inl hk) hv
 split at h
 ·rename_i p q hp hq
  rw [hp] at vy;rw [hq] at vz
  refine gen _ h ?_
  cases t<;>simp [vy.bool_inv,vz.bool_inv]<;>exact .rd (.bool _)
 ·cases t
  ·exact gen _ h (by simpa using vz)
  ·exact gen _ h (by simpa using vy)
theorem s_nck {x:Opd} (hok:(MIns.nck x).ok P o.op=true) (hR:Rel P c g σ a w) {d:Nat} (h:stepV P (.nck x) d [x.ev σ.env] ob K L) (hF:Fin o c g σ a w K L K'):o.wp P a w K' Q':=by
 cases ho:o.op<;>simp [MIns.ok,ho] at hok
 rename_i y
 have vx:=Opd.vr hR hok
 simp only [stepV,sNck,evl] at h
 have hrun:(∃ad,a.eval y=.pointer (some ad))→(execOp a.eval o).run P w=.ok (.value (a.eval y)) w:=by
  rintro ⟨ad,e⟩
  simp [execOp,ho,e]
 cases hc:x.ev σ.env<;>simp only [hc] at h<;>try exact h.elim
 ·rw [hc] at vx;exact fin_val hR hF (hrun ⟨_,vx.ptr_inv⟩) (.inl h) vx
 ·rw [hc] at vx
  obtain ⟨b,o',cur,e,fz,hv,_⟩:=vx.eptr_inv
  exact fin_val hR hF (hrun ⟨_,hv⟩) (.inl h) vx
 ·rw [hc] at vx;exact fin_val hR hF (hrun ⟨_,vx.optr_inv⟩) (.inl h) vx
theorem s_ext {i:Nat} {x:Opd} (hok:(MIns.ext i x).ok P o.op=true) (hR:Rel P c g σ a w) {d:Nat} (h:stepV P (.ext i x) d [x.ev σ.env] ob K L) (hF:Fin o c g σ a w K L K'):o.wp P a w K' Q':=by
 cases ho:o.op<;>simp [MIns.ok,ho] at hok
 rename_i y j
 obtain ⟨hx,rfl⟩:=hok
 have vx:=Opd.vr hR hx
 simp only [stepV,sExt,evl] at h
 cases hc:x.ev σ.env<;>simp only [hc] at h<;>try exact h.elim
 rename_i cs
 rw [hc] at vx
 obtain ⟨vs,hv,hl,hr⟩:=vx.tup_inv
 split at h
 ·rename_i q r hd
  have hi:cs[i]?=some q:=by
   have:=congrArg (·[0]?) hd
   simpa using this
  have hlt:i<vs.size:=by rw [hl];exact (List.getElem?_eq_some_iff.1 hi).1
  refine fin_val hR hF (v:=vs.getD i undef) ?_ (.inl h) (hr i q hi)
  simp [execOp,ho,hv,Instr.extract,Array.getD_eq_getD_getElem?,hlt]
 ·exact h.elim
theorem s_idc {x:Opd} (hok:(MIns.idc x).ok P o.op=true) (hR:Rel P c g σ a w) {d:Nat} (h:stepV P (.idc x) d [x.ev σ.env] ob K L) (hF:Fin o c g σ a w K L K'):o.wp P a w K' Q':=by
 cases ho:o.op<;>simp [MIns.ok,ho] at hok
 rename_i s dd y
 obtain ⟨⟨hx,hs⟩,hd⟩:=hok
 have vx:=Opd.vr hR hx
 simp only [stepV,sIdc,evl] at h
 cases hc:x.ev σ.env<;>simp only [hc] at h<;>try exact h.elim
 rw [hc] at vx
 obtain ⟨t,hv,ht,hm⟩:=vx.str_inv
 obtain ⟨ds,hds⟩:=Option.isSome_iff_exists.1 hs
 have hdd:P.underlying dd=some .string:=by
  unfold isStrT at hd;split at hd<;>simp_all
 refine fin_val hR hF (v:=.string t) ?_ (.inl h) (hv▸vx)
 simp [execOp,ho,hv,convert,run_underlying hds,run_underlying hdd]
theorem s_not {x:Opd} (hok:(MIns.not x).ok P o.op=true) (hR:Rel P c g σ a w) {d:Nat} (h:stepV P (.not x) d [x.ev σ.env] ob K L) (hF:Fin o c g σ a w K L K'):o.wp P a w K' Q':=by
 have:∃t y,o.op=.unOp .not t y∧x.ok y=true:=by
  cases ho:o.op<;>simp [MIns.ok,ho] at hok
  rename_i op t y
  cases op<;>simp [MIns.ok] at hok
  exact ⟨t,y,rfl,hok⟩
 obtain ⟨t,y,ho,hx⟩:=this
 have vx:=Opd.vr hR hx
 simp only [stepV,sNot,evl] at h
 cases hc:x.ev σ.env<;>simp only [hc] at h<;>try exact h.elim
 rw [hc] at vx
 refine fin_val hR hF ?_ (.inl h) (.rd (.bool _))
 simp [execOp,ho,vx.bool_inv,Op.unary]
theorem wrap_inR (k:IntKind) (n:Int):inR k (k.wrap n):=by
 rw [rng_iff]
 cases k<;>simp [rng,IntKind.wrap,IntKind.signed,IntKind.bits]<;>(try split)<;>omega
theorem wrap_of_rng {k:IntKind} {n:Int} (h:rng k n):k.wrap n=n:=by
 cases k<;>simp [rng,IntKind.wrap,IntKind.signed,IntKind.bits] at*<;> (try split)<;>omega
theorem s_neg {ch:Bool} {x:Opd} (hok:(MIns.neg ch x).ok P o.op=true) (hR:Rel P c g σ a w) {d:Nat} (h:stepV P (.neg ch x) d [x.ev σ.env] ob K L) (hF:Fin o c g σ a w K L K'):o.wp P a w K' Q':=by
 have:∃t y,o.op=.unOp .neg t y∧x.ok y=true:=by
  cases ho:o.op<;>simp [MIns.ok,ho] at hok
  rename_i op t y
  cases op<;>simp [MIns.ok] at hok
  exact ⟨t,y,rfl,hok⟩
 obtain ⟨t,y,ho,hx⟩:=this
 have vx:=Opd.vr hR hx
 simp only [stepV,sNeg,evl] at h
 cases hc:x.ev σ.env<;>simp only [hc] at h<;>try exact h.elim
 rename_i k n
 rw [hc] at vx
 have hrun:(execOp a.eval o).run P w=.ok (.value (.int k (k.wrap (0 - n)))) w:=by
  simp [execOp,ho,vx.int_inv.1,Op.unary,Op.intArith]
 cases ch
 ·exact fin_val hR hF hrun (.inl h) (.rd (.int _ _ (wrap_inR _ _)))
 ·obtain ⟨h1,h2⟩:=h
  have e:k.wrap (0 - n)=-n:=by rw [Int.zero_sub];exact wrap_of_rng h1
  rw [e] at hrun
  exact fin_val hR hF hrun (.inl h2) (.rd (.int _ _ (rng_iff.2 h1)))
theorem s_i2i {ch:Bool} {k:IntKind} {x:Opd} (hok:(MIns.i2i ch k x).ok P o.op=true) (hR:Rel P c g σ a w) {d:Nat} (h:stepV P (.i2i ch k x) d [x.ev σ.env] ob K L) (hF:Fin o c g σ a w K L K'):o.wp P a w K' Q':=by
 cases ho:o.op<;>simp [MIns.ok,ho] at hok
 rename_i s dd y
 obtain ⟨⟨hx,hs⟩,hd⟩:=hok
 have vx:=Opd.vr hR hx
 simp only [stepV,sI2i,evl] at h
 cases hc:x.ev σ.env<;>simp only [hc] at h<;>try exact h.elim
 rename_i k' n
 rw [hc] at vx
 obtain ⟨ds,hds⟩:=Option.isSome_iff_exists.1 hs
 have hdd:P.underlying dd=some (.int k):=by
  split at hd
  ·rename_i k2 he
   rw [he,kEq_eq hd]
  ·cases hd
 have hrun:(execOp a.eval o).run P w=.ok (.value (.int k (k.wrap n))) w:=by
  simp [execOp,ho,vx.int_inv.1,convert,run_underlying hds,run_underlying hdd,Conv.intToInt]
 cases ch
 ·exact fin_val hR hF hrun (.inl h) (.rd (.int _ _ (wrap_inR _ _)))
 ·obtain ⟨h1,h2⟩:=h
  rw [wrap_of_rng h1] at hrun
  exact fin_val hR hF hrun (.inl h2) (.rd (.int _ _ (rng_iff.2 h1)))
theorem bits_inR (op:BinOp) (k:IntKind) (x y:Int):inR k (bits op k x y):=wrap_inR _ _
end
end Go.Ab
