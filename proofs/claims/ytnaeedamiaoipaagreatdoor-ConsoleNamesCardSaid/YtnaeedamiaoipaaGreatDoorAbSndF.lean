/- The abstract layer, part 10: stores, appends, slices, strings of bytes, calls. -/
import Derived.Test.YtnaeedamiaoipaaGreatDoorAbSndE
set_option linter.all false
namespace Go.Ab
open Go.RowKit
section
variable {P:Program} {o:Oper} {c:Ctx} {g:Gh} {σ:St} {a:Act} {w:World} {ob:Nat→Option Obj'} {K L:Eff→Prop} {K':Act→World→Prop} {Q':Exit→Act→World→Prop}
theorem heap_setCell_row {w:World} {b i:Nat} {cur:Array Value} {e:TypeId} {fz:Nat×Nat} {v:Value} (h:w.heap[b]?=some (.cells cur e fz)):(w.setCell ⟨b,i,none⟩ v).heap[b]?=some (.cells (cur.setIfInBounds i v) e fz):=by
 simp [World.setCell,Array.getElem?_modify,h]
theorem run_storeRow (b s:Nat) (e:TypeId) (fz:Nat×Nat):∀(vs:List Value) (i:Nat) (cur:Array Value) (w:World),w.heap[b]?=some (.cells cur e fz)→unfrozen fz cur.size→s+i+vs.length≤cur.size→(∀v∈vs,v.oneCell'=true) →
  ∃w' cur',(storeCells ⟨b,s,none⟩ vs i).run P w=.ok () w'∧w'.os=w.os∧w'.tape=w.tape∧w'.output=w.output∧w'.heap.size=w.heap.size∧(∀b',b'≠b→w'.heap[b']?=w.heap[b']?) ∧
   w'.heap[b]?=some (.cells cur' e fz)∧cur'.size=cur.size∧∀j,cur'[j]?=if s+i≤j∧j<s+i+vs.length then vs[j - (s+i)]? else cur[j]?
 | [],i,cur,w,h,_,_,_=>⟨w,cur,rfl,rfl,rfl,rfl,rfl,fun _ _=>rfl,h,rfl,fun j=>by rw [if_neg (by simp only [List.length_nil];omega)]⟩
 | v :: vs,i,cur,w,h,hf,hl,h1=>by
  have hlt:s+i<cur.size:=by simp at hl;omega
  have ha:(⟨b,s,none⟩:Addr).add i=⟨b,s+i,none⟩:=Addr.add_lit _ _ _
  have hc:w.cell? ⟨b,s+i,none⟩=some cur[s+i]:=by
   rw [cell_of_row w b _ cur e fz h];simp [hlt]
  have hz:w.frozen? ⟨b,s+i,none⟩=false:=by
   have:=hf.at hlt
   simpa [World.frozen?,h] using this
  have hst:(store ((⟨b,s,none⟩:Addr).add i) v).run P w=.ok () (w.setCell ⟨b,s+i,none⟩ v):=by
   rw [run_store P w _ v .plain (h1 v List.mem_cons_self),ha,hc]
   simp [hz]
  obtain ⟨w',cur',r1,r2,r3,r4,r5,r6,r7,r8,r9⟩:=run_storeRow b s e fz vs (i+1) (cur.setIfInBounds (s+i) v) (w.setCell ⟨b,s+i,none⟩ v) (heap_setCell_row h) (by simpa using hf) (by simp at hl ⊢;omega)
   (fun u hu=>h1 u (List.mem_cons_of_mem _ hu))
  refine ⟨w',cur',?_,r2,r3,r4,by rw [r5];simp,fun b' hb'=>(r6 b' hb').trans (Below.heap_setCell _ _ _ _ hb'),r7,by rw [r8];simp,fun j=>?_⟩
  ·simp only [storeCells,Sem.run_bind,hst,Result.andThen_ok,r1]
  ·rw [r9 j]
   simp only [List.length_cons]
   by_cases e1:j=s+i
   ·subst e1
    rw [if_neg (by omega),if_pos (by omega)]
    simp [hlt]
   ·by_cases hin:s+(i+1)≤j∧j<s+(i+1)+vs.length
    ·rw [if_pos hin,if_pos (by omega)]
     obtain ⟨q,hq⟩:∃q,j - (s+i)=q+1:=⟨j - (s+i) - 1,by omega⟩
     rw [hq,List.getElem?_cons_succ]
     congr 1;omega
    ·rw [if_neg hin,if_neg (by omega)]
     have hne:¬s+i=j:=fun h=>e1 h.symm
     rw [Array.getElem?_setIfInBounds_ne hne]
theorem Keep.upd {w':World} {H:Heap} {n:Nat} {o':Obj'} (hH:HRel P g w H) (hf:find n H=some o') (hn:¬g.nil n) (h:∀b,b≠g.ρ n→w'.heap[b]?=w.heap[b]?):Keep g.S w w' :=
 fun b hb=>h b fun e=>hH.sep n o' hf hn (e▸hb)
theorem setCells_get {cs ys:List V} {off:Nat} (h:off+ys.length≤cs.length) (j:Nat):(setCells cs off ys)[j]?=if off≤j∧j<off+ys.length then ys[j - off]? else cs[j]?:=by
 simp only [setCells,List.getElem?_append,List.length_append,List.length_take,Nat.min_eq_left (show off≤cs.length by omega)]
 by_cases h1:j<off
 ·rw [if_pos (by omega),if_pos (by omega),if_neg (by omega),List.getElem?_take,if_pos h1]
 ·by_cases h2:j<off+ys.length
  ·rw [if_pos (by omega),if_neg (by omega),if_pos (by omega)]
  ·rw [if_neg (by omega),if_neg (by omega),List.getElem?_drop]
   congr 1;omega
theorem setCells_len {cs ys:List V} {off:Nat} (h:off+ys.length≤cs.length):(setCells cs off ys).length=cs.length:=by
 simp [setCells];omega
theorem getD_of_getElem? {cur:Array Value} {j:Nat} {u:Value} (h:cur[j]?=some u):cur.getD j undef=u:=by
 simp [Array.getD_eq_getD_getElem?,h]
theorem ArrAt.set {S:Nat→Prop} {w w':World} {b base cap k:Nat} {xs:List V} {t:Option TypeId} (h:ArrAt S w b base cap k xs t) (hk:Keep S w w') {i off:Nat} {x x':V} {ys:List V} (hi:xs[i]?=some x) (hx':x'.cells=setCells x.cells off ys) (hoff:off+ys.length≤k)
  (hok:x'.cells.length=k∧(∀c∈x'.cells,c.one=true)∧x'.sealed=true) {cur cur':Array Value} {e:TypeId} {fz:Nat×Nat} {vs:List Value} (hb:w.heap[b]?=some (.cells cur e fz)) (hb':w'.heap[b]?=some (.cells cur' e fz)) (hs:cur'.size=cur.size)
  (hvl:vs.length=ys.length) (hv:∀(j:Nat) (y:V),ys[j]?=some y→Rd S w (vs.getD j undef) y)
  (hc:∀j,cur'[j]?=if (base+i)*k+off≤j∧j<(base+i)*k+off+vs.length then vs[j - ((base+i)*k+off)]? else cur[j]?):ArrAt S w' b base cap k (xs.set i x') t:=by
 obtain ⟨hp,⟨cur0,e0,fz0,h1,h2,h3,h4⟩,h5,h6,h7⟩:=h
 rw [hb] at h1;cases h1
 refine ⟨hp,⟨cur',_,_,hb',by rw [hs,h2],⟨by rw [hs];exact h3.1,h3.2⟩,fun i' j u y hu hy=>?_⟩,by simpa using h5,h6,fun u hu=>?_⟩
 ·have hlt:i<xs.length:=(List.getElem?_eq_some_iff.1 hi).1
  have hxk:=h7 x (List.mem_of_getElem? hi)
  rw [List.getElem?_set] at hu
  by_cases e1:i=i'
  ·subst e1
   rw [if_pos rfl,if_pos hlt] at hu
   cases hu
   rw [hx',setCells_get (by rw [hxk.1];exact hoff)] at hy
   have hcj:=hc ((base+i)*k+j)
   by_cases h8:off≤j∧j<off+ys.length
   ·rw [if_pos h8] at hy
    rw [if_pos (by omega)] at hcj
    have hv':=hv (j - off) y hy
    have e2:(base+i)*k+j - ((base+i)*k+off)=j - off:=by omega
    rw [e2] at hcj
    have hlt2:j - off<vs.length:=by omega
    rw [List.getElem?_eq_getElem hlt2] at hcj
    rw [getD_of_getElem? hcj]
    have e3:vs.getD (j - off) undef=vs[j - off]:=by simp [hlt2]
    rw [e3] at hv'
    exact hv'.mono hk fun _ h=>h
   ·rw [if_neg h8] at hy
    rw [if_neg (by omega)] at hcj
    have:=h4 i j x y hi hy
    have e2:cur'.getD ((base+i)*k+j) undef=cur.getD ((base+i)*k+j) undef:=by
     simp only [Array.getD_eq_getD_getElem?,hcj]
    rw [e2];exact this.mono hk fun _ h=>h
  ·rw [if_neg e1] at hu
   have hj:j<k:=by
    rw [←(h7 u (List.mem_of_getElem? hu)).1];exact (List.getElem?_eq_some_iff.1 hy).1
   have hcj:=hc ((base+i')*k+j)
   rw [if_neg ?_] at hcj
   ·have:=h4 i' j u y hu hy
    have e2:cur'.getD ((base+i')*k+j) undef=cur.getD ((base+i')*k+j) undef:=by
     simp only [Array.getD_eq_getD_getElem?,hcj]
    rw [e2];exact this.mono hk fun _ h=>h
   ·rintro ⟨q1,q2⟩
    rw [hvl] at q2
    rcases Nat.lt_or_gt_of_ne e1 with h9|h9
    ·have:(base+i+1)*k≤(base+i')*k:=Nat.mul_le_mul_right _ (by omega)
     rw [Nat.add_mul (base+i) 1,Nat.one_mul] at this
     omega
    ·have:(base+i'+1)*k≤(base+i)*k:=Nat.mul_le_mul_right _ (by omega)
     rw [Nat.add_mul (base+i') 1,Nat.one_mul] at this
     omega
 ·rcases List.mem_or_eq_of_mem_set hu with h8|h8
  ·exact h7 u h8
  ·rw [h8];exact hok
theorem s_st {n:Nat} {x y:Opd} (hok:(MIns.st n x y).ok P o.op=true) (hR:Rel P c g σ a w) (hob:∀id o,ob id=some o→find id σ.heap=some o) {d:Nat} (h:stepV P (.st n x y) d [x.ev σ.env,y.ev σ.env] ob K L) (hF:Fin o c g σ a w K L K'):o.wp P a w K' Q':=by
 have:∃t x' y',o.op=.store t x' y'∧x.ok x'=true∧y.ok y'=true∧sizeIs P t n=true:=by
  cases ho:o.op<;>rw [ho] at hok<;>try (simp [MIns.ok] at hok;done)
  simp [MIns.ok] at hok
  exact ⟨_,_,_,rfl,hok.1.1,hok.1.2,hok.2⟩
 obtain ⟨t,x',y',ho,hx,hy,ht⟩:=this
 have vx:=Opd.vr hR hx
 have vy:=Opd.vr hR hy
 have hsz:=sizeIs_run ht
 simp only [stepV,sSt] at h
 generalize hyv:y.ev σ.env=v at h vy
 by_cases hb:(Nat.beq v.cells.length n&&v.cells.all V.one)=true
 case neg=>simp [hb] at h
 simp only [hb,cond_true] at h
 simp only [Bool.and_eq_true,List.all_eq_true] at hb
 obtain ⟨hn,hone⟩:=hb
 have hn:v.cells.length=n:=by simpa using hn
 have hna:v.nany=true:=one_nany hone
 obtain ⟨hvl,hvc⟩:=vy.cells_of hna
 have hone':∀u∈(a.eval y').cells.toList,u.oneCell'=true:=by
  intro u hu
  obtain ⟨i,hi,rfl⟩:=List.mem_iff_getElem.1 hu
  have hi':i<v.cells.length:=by simp at hi;omega
  have:=(hvc i v.cells[i] (List.getElem?_eq_getElem hi')).one_cell (hone _ (List.getElem_mem hi'))
  have e1:(a.eval y').cells.getD i undef=(a.eval y').cells.toList[i]:=by
   simp at hi;simp [Array.getD_eq_getD_getElem?,hi]
  rw [←e1];exact this
 have fin:∀(ad:Addr) (w':World),a.eval x'=.pointer (some ad)→(storeCells ad (a.eval y').cells.toList).run P w=.ok () w'→∀eff g',(K eff∨L eff)→StepOK g σ.heap w eff g' w'→Fresh c.H0 g g' σ eff→eff.val=.any→o.wp P a w K' Q':=by
  intro ad w' e1 hrun eff g' hk h1 h2 h3
  unfold Oper.wp
  have:(execOp a.eval o).run P w=.ok .skip w':=by
   have hne:¬((a.eval y').cells.size≠n):=by omega
   simp only [execOp,ho,Instr.storeAt,e1,Instr.sureAddr,storeVar,Sem.run_bind,Sem.run_pure,Result.andThen_ok,hsz w,hne,if_false,hrun]
  rw [this]
  exact hF eff hk g' undef w' h1 h2 (by rw [h3];exact .any _)
 split at h
 ·rename_i id off hc
  rw [hc] at vx
  split at h
  ·rename_i cs ty hobj
   have hfd:=hob _ _ hobj
   obtain ⟨hnn,cur,e,fz,h1,h2,⟨h3,hty⟩,h4⟩:=hR.hp.obj _ _ hfd
   by_cases hle:Nat.ble (off+n) cs.length=true
   case neg=>simp [hle] at h
   simp only [hle,cond_true] at h
   have hle:off+n≤cs.length:=by simpa using hle
   obtain ⟨w',cur',r1,r2,r3,r4,r5,r6,r7,r8,r9⟩:=run_storeRow (P:=P) (g.ρ id) off e fz (a.eval y').cells.toList 0 cur w h1 h3 (by simp;omega) hone'
   have hkeep:Keep g.S w w':=Keep.upd hR.hp hfd hnn r6
   refine fin _ w' vx.ptr_inv r1 (eup id (.cells (setCells cs off v.cells) ty)) g (.inl h) (StepOK.upd .any id (.cells cs ty) _ hR.hp hfd hnn r2 r3 r4 r5 r6 ?_) (Fresh.upd _) rfl
   refine ⟨hnn,cur',e,fz,r7,by rw [r8,h2,setCells_len (by omega)],⟨by rw [r8];exact h3,hty⟩,fun i q hq=>?_⟩
   rw [setCells_get (by omega)] at hq
   have r9':=r9 i
   simp only [Nat.add_zero,Array.length_toList] at r9'
   by_cases h8:off≤i∧i<off+v.cells.length
   ·rw [if_pos h8] at hq
    rw [if_pos (by omega)] at r9'
    have hlt:i - off<(a.eval y').cells.size:=by omega
    have hq':=hvc (i - off) q hq
    rw [Array.getElem?_toList,Array.getElem?_eq_getElem hlt] at r9'
    rw [getD_of_getElem? r9']
    have e3:(a.eval y').cells.getD (i - off) undef=(a.eval y').cells[i - off]:=by simp [Array.getD_eq_getD_getElem?,hlt]
    rw [e3] at hq'
    exact hq'.mono (g':=g) hkeep (fun _ h=>h) fun id _=>Gh.agree.refl _ _
   ·rw [if_neg h8] at hq
    rw [if_neg (by omega)] at r9'
    have e2:cur'.getD i undef=cur.getD i undef:=by simp only [Array.getD_eq_getD_getElem?,r9']
    rw [e2]
    exact (h4 i q hq).mono (g':=g) hkeep (fun _ h=>h) fun id _=>Gh.agree.refl _ _
  ·exact h.elim
 ·rename_i id k i off hc
  rw [hc] at vx
  split at h
  ·rename_i k' xs t0 hobj
   have hfd:=hob _ _ hobj
   by_cases hkk:(Nat.beq k k'&&v.sealed)=true
   case neg=>simp [hkk] at h
   simp only [hkk,cond_true] at h
   simp only [Bool.and_eq_true] at hkk
   obtain ⟨hkk,hsea⟩:=hkk
   have:=Nat.eq_of_beq_eq_true hkk;subst this
   have main:∀(x0 x1:V),xs[i]?=some x0→x1.cells=setCells x0.cells off v.cells→off+n≤k→(x1.cells.length=k∧(∀c∈x1.cells,c.one=true)∧x1.sealed=true) →
     (K (eup id (.arr k (xs.set i x1) t0))∨L (eup id (.arr k (xs.set i x1) t0)))→o.wp P a w K' Q':=by
    intro x0 x1 hxi hx1 hoff hok1 hk
    rcases hR.hp.obj _ _ hfd with ⟨_,hnil⟩|⟨hnn,ha⟩
    ·rw [hnil] at hxi;simp at hxi
    ·have ha0:=ha
     obtain ⟨hkp,⟨cur,e,fz,h1,h2,⟨h3,_⟩,h4⟩,h5,h6,h7⟩:=ha
     have hlt:i<xs.length:=(List.getElem?_eq_some_iff.1 hxi).1
     have hle:(g.base id+i)*k+off+(a.eval y').cells.toList.length≤cur.size:=by
      have:(g.base id+i+1)*k≤cur.size:=by rw [h2];exact Nat.mul_le_mul_right _ (by omega)
      rw [Nat.add_mul (g.base id+i) 1,Nat.one_mul] at this
      simp;omega
     obtain ⟨w',cur',r1,r2,r3,r4,r5,r6,r7,r8,r9⟩:=run_storeRow (P:=P) (g.ρ id) ((g.base id+i)*k+off) e fz (a.eval y').cells.toList 0 cur w h1 h3 hle hone'
     have hkeep:Keep g.S w w':=Keep.upd hR.hp hfd hnn r6
     refine fin _ w' vx.optr_inv r1 (eup id (.arr k (xs.set i x1) t0)) g hk (StepOK.upd .any id (.arr k xs t0) _ hR.hp hfd hnn r2 r3 r4 r5 r6 ?_) (Fresh.upd _) rfl
     refine .inr ⟨hnn,ha0.set hkeep hxi hx1 (by omega) hok1 h1 r7 r8 (vs:=(a.eval y').cells.toList) (by simp [hvl]) (fun j q hq=>?_) (fun j=>by have:=r9 j;simpa using this)⟩
     have hlt2:j<(a.eval y').cells.size:=by rw [hvl];exact (List.getElem?_eq_some_iff.1 hq).1
     have e3:(a.eval y').cells.toList.getD j undef=(a.eval y').cells.getD j undef:=by simp [Array.getD_eq_getD_getElem?,List.getD,hlt2]
     rw [e3]
     exact (hvc j q hq).sc_rd (sealed_sc hsea (List.mem_of_getElem? hq))
   by_cases hw:(Nat.beq off 0&&Nat.beq n k)=true
   ·simp only [hw,cond_true] at h
    simp only [Bool.and_eq_true] at hw
    have h0:off=0:=by simpa using hw.1
    have hnk:n=k:=by simpa using hw.2
    obtain ⟨hlt,hk⟩:=h
    have hxi:xs[i]?=some xs[i]:=List.getElem?_eq_getElem hlt
    subst h0
    have hxk:xs[i].cells.length=k:=by
     rcases hR.hp.obj _ _ hfd with ⟨_,hnil⟩|⟨hnn,ha⟩
     ·subst hnil;simp at hlt
     ·exact (ha.elem _ (List.getElem_mem hlt)).1
    refine main xs[i] v hxi ?_ (by omega) ⟨by omega,hone,hsea⟩ (.inl hk)
    unfold setCells
    rw [List.take_zero,List.nil_append,List.drop_eq_nil_of_le (by omega),List.append_nil]
   ·simp only [hw,cond_false] at h
    obtain ⟨cs,hxi,hoff,hk⟩:=h
    have hx0:(V.agg cs).cells.length=k∧(∀c∈(V.agg cs).cells,c.one=true)∧(V.agg cs).sealed=true:=by
     rcases hR.hp.obj _ _ hfd with ⟨_,hnil⟩|⟨hnn,ha⟩
     ·rw [hnil] at hxi;simp at hxi
     ·exact ha.elem _ (List.mem_of_getElem? hxi)
    have hcl:cs.length=k:=hx0.1
    have hmem:∀c'∈setCells cs off v.cells,c'∈cs∨c'∈v.cells:=by
     intro c' hc'
     simp only [setCells,List.mem_append] at hc'
     rcases hc' with (h|h)|h
     ·exact .inl (List.mem_of_mem_take h)
     ·exact .inr h
     ·exact .inl (List.mem_of_mem_drop h)
    refine main (.agg cs) (.agg (setCells cs off v.cells)) hxi rfl hoff ⟨by rw [V.cells,setCells_len (by omega)];exact hcl,fun c' hc'=>?_,?_⟩ (.inr hk)
    ·rcases hmem c' hc' with h|h
     ·exact hx0.2.1 c' h
     ·exact hone c' h
    ·simp only [V.sealed,List.all_eq_true]
     intro c' hc'
     rcases hmem c' hc' with h|h
     ·exact sealed_sc hx0.2.2 h
     ·exact sealed_sc hsea h
  ·exact h.elim
 ·exact h.elim
theorem optOK_inv (hR:Rel P c g σ a w):∀{x:Option Opd} {y:Option Operand},optOK x y=true→(x=none∧y=none)∨∃x' y',x=some x'∧y=some y'∧VR g w (a.eval y') (x'.ev σ.env)
 | none,none,_=>.inl ⟨rfl,rfl⟩
 | some x,some y,h=>.inr ⟨x,y,rfl,rfl,Opd.vr hR h⟩
 | none,some _,h=>by simp [optOK] at h
 | some _,none,h=>by simp [optOK] at h
theorem bounds_run (hR:Rel P c g σ a w) {lo hi:Option Opd} {lo' hi':Option Operand} (h1:optOK lo lo'=true) (h2:optOK hi hi'=true) {len cap:Nat} {isS:Bool} {p q:Int}
  (hb:bounds lo.isSome hi.isSome len ((optOpd lo++optOpd hi).map (·.ev σ.env))=some (p,q)) (h0:0≤p) (hpq:p≤q) (hq:q≤len) (hc:len≤cap) :
  (Instr.sliceBounds isS len cap (lo'.map a.eval) (hi'.map a.eval) none).run P w=.ok (p.toNat,q.toNat,cap) w:=by
 have bnd:∀(k:IntKind) (n:Int) (m:Nat) (code:BoundsCode),0≤n→n≤m→(Instr.sliceBound (.int k n) m code).run P w=.ok n.toNat w:=fun k n m code a1 a2=>run_sliceBound w k n m code a1 a2
 rcases optOK_inv hR h1 with ⟨rfl,rfl⟩|⟨x,y,rfl,rfl,vx⟩<;>rcases optOK_inv hR h2 with ⟨rfl,rfl⟩|⟨x2,y2,rfl,rfl,vx2⟩
 ·simp [bounds,optOpd] at hb
  obtain ⟨rfl,rfl⟩:=hb
  simp [Instr.sliceBounds]
 ·simp only [optOpd,List.nil_append,List.map_cons,List.map_nil,Option.isSome_none,Option.isSome_some] at hb
  cases hx:x2.ev σ.env<;>simp [bounds,hx] at hb
  rename_i k n
  obtain ⟨rfl,rfl⟩:=hb
  rw [hx] at vx2
  simp only [Option.map_none,Option.map_some,vx2.int_inv.1,Instr.sliceBounds,Sem.run_bind,Sem.run_pure,Result.andThen_ok]
  rw [bnd k n cap _ hpq (by omega)]
  rfl
 ·simp only [optOpd,List.append_nil,List.map_cons,List.map_nil,Option.isSome_none,Option.isSome_some] at hb
  cases hx:x.ev σ.env<;>simp [bounds,hx] at hb
  rename_i k n
  obtain ⟨rfl,rfl⟩:=hb
  rw [hx] at vx
  simp only [Option.map_none,Option.map_some,vx.int_inv.1,Instr.sliceBounds,Sem.run_bind,Sem.run_pure,Result.andThen_ok]
  rw [bnd k n len _ h0 (by omega)]
  simp
 ·simp only [optOpd,List.cons_append,List.nil_append,List.map_cons,List.map_nil,Option.isSome_some] at hb
  cases hx:x.ev σ.env<;>cases hx2:x2.ev σ.env<;>simp [bounds,hx,hx2] at hb
  rename_i k n k2 n2
  obtain ⟨rfl,rfl⟩:=hb
  rw [hx] at vx;rw [hx2] at vx2
  simp only [Option.map_some,vx.int_inv.1,vx2.int_inv.1,Instr.sliceBounds,Sem.run_bind,Sem.run_pure,Result.andThen_ok]
  rw [bnd k2 n2 cap _ (by omega) (by omega)]
  simp only [Result.andThen_ok]
  rw [bnd k n n2.toNat _ h0 (by omega)]
  rfl
theorem s_sls {x:Opd} {lo hi:Option Opd} (hok:(MIns.sls x lo hi).ok P o.op=true) (hR:Rel P c g σ a w) {d:Nat} (h:stepV P (.sls x lo hi) d (x.ev σ.env::(optOpd lo++optOpd hi).map (·.ev σ.env)) ob K L) (hF:Fin o c g σ a w K L K'):o.wp P a w K' Q':=by
 have:∃t y lo' hi',o.op=.slice t y lo' hi' none∧x.ok y=true∧optOK lo lo'=true∧optOK hi hi'=true∧P.underlying t=some .string:=by
  cases ho:o.op<;>rw [ho] at hok<;>try (simp [MIns.ok] at hok;done)
  rename_i t y lo' hi' mx
  cases mx<;>try (simp [MIns.ok] at hok;done)
  simp [MIns.ok] at hok
  exact ⟨_,_,_,_,rfl,hok.1.1.1,hok.1.1.2,hok.1.2,strT hok.2⟩
 obtain ⟨t,y,lo',hi',ho,hx,hlo,hhi,ht⟩:=this
 have vx:=Opd.vr hR hx
 simp only [stepV,sSls] at h
 split at h
 ·rename_i s hs
  rw [hs] at vx
  obtain ⟨b,eb,hb,hm⟩:=vx.str_inv
  have hsz:b.size=s.length:=by rw [←hb,Array.length_toList];rfl
  split at h
  ·rename_i p q hpq
   obtain ⟨⟨h0,h1,h2⟩,hk⟩:=h
   have hrun:=bounds_run (P:=P) hR hlo hhi (isS:=false) (cap:=s.length) hpq h0 h1 h2 (Nat.le_refl _)
   have hext:(b.extract p.toNat q.toNat).data.toList=(s.take q.toNat).drop p.toNat:=by
    rw [←hb]
    obtain ⟨⟨l⟩⟩:=b
    have:=ByteArray.extract_mk l p.toNat q.toNat
    rw [this]
    simp only
    rw [List.drop_take]
   refine fin_val hR hF (v:=.string (b.extract p.toNat q.toNat)) ?_ (.inl hk) (.rd ?_)
   ·simp only [execOp,ho,eb]
    refine exec_v ?_
    rw [run_sliceAt_string w t _ _ _ _ ht]
    simp only [Option.map_none,Instr.slice,Sem.run_bind,run_underlying ht,Result.andThen_ok,Option.isSome_none,Bool.false_eq_true,if_false,Sem.run_pure,hsz]
    rw [hrun]
    rfl
   ·rw [←hext]
    refine .str _ ?_
    have:(b.extract p.toNat q.toNat).size=(b.extract p.toNat q.toNat).data.toList.length:=by rw [Array.length_toList];rfl
    rw [this,hext]
    simp;omega
  ·exact h.elim
 ·exact h.elim
theorem s_slc {k:Nat} {x:Opd} {lo hi:Option Opd} (hok:(MIns.slc k x lo hi).ok P o.op=true) (hR:Rel P c g σ a w) {d:Nat} (h:stepV P (.slc k x lo hi) d (x.ev σ.env::(optOpd lo++optOpd hi).map (·.ev σ.env)) ob K L) (hF:Fin o c g σ a w K L K'):o.wp P a w K' Q':=by
 have:∃t y lo' hi',o.op=.slice t y lo' hi' none∧x.ok y=true∧optOK lo lo'=true∧optOK hi hi'=true∧isSlice P t k=true:=by
  cases ho:o.op<;>rw [ho] at hok<;>try (simp [MIns.ok] at hok;done)
  rename_i t y lo' hi' mx
  cases mx<;>try (simp [MIns.ok] at hok;done)
  simp [MIns.ok] at hok
  exact ⟨_,_,_,_,rfl,hok.1.1.1,hok.1.1.2,hok.1.2,hok.2⟩
 obtain ⟨t,y,lo',hi',ho,hx,hlo,hhi,ht⟩:=this
 obtain ⟨e,hu,hsz⟩:=slice_of ht
 have vx:=Opd.vr hR hx
 have hrun:∀(ad:Option Addr) (len cap:Nat) (p q:Int),a.eval y=.slice ad len cap→bounds lo.isSome hi.isSome len ((optOpd lo++optOpd hi).map (·.ev σ.env))=some (p,q)→0≤p→p≤q→q≤len→len≤cap →
   (execOp a.eval o).run P w=.ok (.value (.slice (if cap=p.toNat then ad else ad.map (·.add (p.toNat*k))) (q.toNat - p.toNat) (cap - p.toNat))) w:=by
  intro ad len cap p q e1 hb h0 h1 h2 h3
  have hr:=bounds_run (P:=P) hR hlo hhi (isS:=true) hb h0 h1 h2 h3
  simp only [execOp,ho,e1]
  refine exec_v ?_
  have e2:P.elem t=e:=by simp [Program.elem,hu]
  rw [run_sliceAt_slice w t _ _ _ _ (by rw [e2];exact hu)]
  simp only [Option.map_none,Instr.slice,Sem.run_bind,run_underlying hu,Result.andThen_ok]
  rw [hr]
  simp only [Result.andThen_ok,hsz w,Sem.run_pure]
 simp only [stepV,sSlc] at h
 split at h
 ·rename_i xs hs
  rw [hs] at vx
  split at h
  ·rename_i p q hpq
   obtain ⟨⟨h0,h1,h2⟩,hkk,hk⟩:=h
   have hrd:=vx.sl_inv
   generalize hvy:a.eval y=vy at hrd
   cases hrd with
   | nilsl =>
    simp at h2
    have hp0:p=0:=by omega
    have hq0:q=0:=by omega
    subst hp0;subst hq0
    refine fin_val hR hF (hrun none 0 0 0 0 hvy hpq (by omega) (by omega) (by simp) (Nat.le_refl _)) (.inl hk) (.rd ?_)
    simp
    exact .nilsl
   | slz a0 cap0 =>
    simp at h2
    have hp0:p=0:=by omega
    have hq0:q=0:=by omega
    subst hp0;subst hq0
    refine fin_val hR hF (hrun (some a0) 0 cap0 0 0 hvy hpq (by omega) (by omega) (by simp) (Nat.zero_le _)) (.inl hk) (.rd ?_)
    simp only [Int.toNat_zero,List.take_zero,List.drop_zero,Nat.sub_zero,Option.map_some]
    split<;>exact .slz _ _
   | sl b o' len cap k' cur e' fz _ hS hg hl hm hcc hb hkx hr =>
    subst hl
    refine fin_val hR hF (hrun _ _ cap p q hvy hpq h0 h1 h2 hcc) (.inl hk) (.rd ?_)
    have hlen:((xs.take q.toNat).drop p.toNat).length=q.toNat - p.toNat:=by simp;omega
    have hget:∀(i:Nat) (u:V),((xs.take q.toNat).drop p.toNat)[i]?=some u→xs[p.toNat+i]?=some u:=by
     intro i u hu'
     rw [List.getElem?_drop,List.getElem?_take] at hu'
     split at hu'
     ·exact hu'
     ·cases hu'
    obtain ⟨o'',ho''⟩:∃o'',(if cap=p.toNat then (some (⟨b,o',none⟩:Addr)) else (some (⟨b,o',none⟩:Addr)).map (·.add (p.toNat*k)))=some ⟨b,o'',none⟩∧(cap=p.toNat∨o''=o'+p.toNat*k):=by
     by_cases hcp:cap=p.toNat
     ·exact ⟨o',by rw [if_pos hcp],.inl hcp⟩
     ·refine ⟨o'+p.toNat*k,?_,.inr rfl⟩
      rw [if_neg hcp]
      simp only [Option.map_some]
      congr 1
      exact Addr.add_lit _ _ _
    rw [ho''.1]
    by_cases hz:q.toNat - p.toNat=0
    ·have hnil:(xs.take q.toNat).drop p.toNat=[]:=List.eq_nil_of_length_eq_zero (by rw [hlen];exact hz)
     rw [hnil,hz]
     exact .sl b o'' 0 _ k cur e' fz [] hS hg rfl (by omega) (by omega) (.inl rfl) (fun x hx=>by simp at hx) (fun i j u y hu' _=>by simp at hu')
    ·have hkp:k'=k:=by
      have hlt:p.toNat<xs.length:=by omega
      have m1:=List.getElem_mem hlt
      rw [←(hkx _ m1).1];exact hkk _ m1
     subst hkp
     have hoo:o''=o'+p.toNat*k':=by
      rcases ho''.2 with h|h
      ·omega
      ·exact h
     subst hoo
     refine .sl b _ _ _ k' cur e' fz _ hS hg hlen (by omega) (by omega) (.inr ?_) (fun u hu'=>?_) (fun i j u y hu' hy=>?_)
     ·rcases hb with hb|hb
      ·omega
      ·refine Nat.le_trans ?_ hb
       have:(p.toNat+(q.toNat - p.toNat))*k'≤xs.length*k':=Nat.mul_le_mul_right _ (by omega)
       rw [Nat.add_mul] at this
       omega
     ·exact hkx u (List.mem_of_mem_take (List.mem_of_mem_drop hu'))
     ·have:=hr (p.toNat+i) j u y (hget i u hu') hy
      rw [Nat.add_mul] at this
      rw [show o'+p.toNat*k'+i*k'+j=o'+(p.toNat*k'+i*k')+j by omega]
      exact this
  ·exact h.elim
 ·rename_i id k' l n hs
  rw [hs] at vx
  split at h
  ·rename_i p q hpq
   by_cases hkk:Nat.beq k k'=true
   case neg=>simp [hkk] at h
   simp only [hkk,cond_true] at h
   have:=Nat.eq_of_beq_eq_true hkk;subst this
   obtain ⟨⟨h0,h1,h2⟩,hk⟩:=h
   rcases vx.osl_inv with ⟨hnil,hv,hz⟩|⟨hnn,o',cc,hv,ho',hcap,hlc,hm⟩
   ·subst hz
    have hp0:p=0:=by omega
    have hq0:q=0:=by omega
    subst hp0;subst hq0
    refine fin_val hR hF (hrun none 0 0 0 0 hv hpq (by omega) (by omega) (by simp) (Nat.le_refl _)) (.inl hk) ?_
    simp
    exact .oslnil _ _ _ hnil
   ·refine fin_val hR hF (hrun _ _ cc p q hv hpq h0 h1 h2 hlc) (.inl hk) ?_
    by_cases hcp:cc=p.toNat
    ·rw [if_pos hcp]
     exact .osl _ _ _ _ _ _ hnn (.inl (by omega)) (by omega) (by omega) (by omega)
    ·rw [if_neg hcp]
     simp only [Option.map_some]
     rw [show (⟨g.ρ id,o',none⟩:Addr).add (p.toNat*k)=⟨g.ρ id,o'+p.toNat*k,none⟩ from Addr.add_lit _ _ _]
     refine .osl _ _ _ _ _ _ hnn (.inr ?_) (by omega) (by omega) (by omega)
     rcases ho' with h|h
     ·omega
     ·rw [h,←Nat.add_mul,Nat.add_assoc]
  ·exact h.elim
 ·exact h.elim
end
end Go.Ab
