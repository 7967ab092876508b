/- The abstract layer, part 8: what makes memory. -/
import Derived.Test.YtnaeedamiaoipaaGreatDoorAbSndC
set_option linter.all false
namespace Go.Ab
open Go.RowKit
section
variable {P:Program} {o:Oper} {c:Ctx} {g:Gh} {σ:St} {a:Act} {w:World} {ob:Nat→Option Obj'} {K L:Eff→Prop} {K':Act→World→Prop} {Q':Exit→Act→World→Prop}
def Clean (c:Ctx) (σ:St) (n:Nat):Prop:=find n c.H0=none∧noEnv n σ.env=true∧noHeap n σ.heap=true
theorem Opd.no {n:Nat} (h:noEnv n σ.env=true) (x:Opd) (y:Operand) (hok:x.ok y=true):(x.ev σ.env).has n=false:=by
 cases x with
 | t m =>
  simp only [Opd.ev,get_find]
  cases hf:find m σ.env with
  | none=>rfl
  | some z=>exact noEnv_find h hf
 | c v =>
  cases y<;>simp [Opd.ok] at hok
  rename_i u
  have key:∀{v:V} {u:Value},cOK v u=true→v.has n=false:=by
   intro v u h
   have hr:Rd (fun _=>False) default u v:=cOK_rd h
   clear h hok
   induction hr with
   | agg vs cs hl hr ih =>
    have:∀l:List V,(∀x∈l,x.has n=false)→V.hasL n l=false:=by
     intro l
     induction l with
     | nil=>intro _;rfl
     | cons x l ih=>intro h;simp [V.hasL,h x (by simp),ih (fun y hy=>h y (by simp [hy]))]
    simp only [V.has]
    refine this cs fun x hx=>?_
    obtain ⟨i,hi,rfl⟩:=List.mem_iff_getElem.1 hx
    exact ih i _ (List.getElem?_eq_getElem hi)
   | _=>simp [V.has,V.hasL]
  exact key hok
 | f m=>rfl
theorem Fresh.of_clean {g':Gh} {x:V} {n:Nat} {o':Obj'} {dr:List Nat} (hc:Clean c σ n):Fresh c.H0 g g' σ ⟨x,dr,[(n,o')]⟩ :=
 Fresh.one hc.1 hc.2.1 fun m o'' hm _=>noHeap_find hc.2.2 hm
theorem Keep.push {S:Nat→Prop} {w w':World} {B:Obj} (hlt:∀b,S b→b<w.heap.size) (h:w'.heap=w.heap.push B):Keep S w w':=fun b hb=>by
 rw [h,Array.getElem?_push,if_neg (by have:=hlt b hb;omega)]
theorem VR.newer {g:Gh} {w w':World} {n b base cap:Nat} {v:Value} {x:V} (h:VR g w v x) (hk:Keep g.S w w') (hx:x.has n=false):VR (g.set n b base cap) w' v x :=
 h.mono (g':=g.set n b base cap) hk (fun _ hb=>hb) fun id hid=>Gh.set_agree fun e=>by rw [e,hx] at hid;cases hid
theorem unfrozen_zero (n:Nat):unfrozen (0,0) n:=.inl rfl
theorem fin_cells (hR:Rel P c g σ a w) (hF:Fin o c g σ a w K L K') {d:Nat} (hcl:Clean c σ d) {vs:Array Value} {e:TypeId} {cs:List V} (hl:vs.size=cs.length)
  (hv:∀(i:Nat) (x:V),cs[i]?=some x→VR g w (vs.getD i undef) x∧x.has d=false)
  (hrun:(execOp a.eval o).run P w=.ok (.value (.pointer (some ⟨w.heap.size,0,none⟩))) (w.alloc (.cells vs e))) {t:Option TypeId} (ht:tyOK t e (0,0)) (hk:K ⟨.ptr d 0,[],[(d,.cells cs t)]⟩):o.wp P a w K' Q':=by
 unfold Oper.wp
 rw [hrun]
 have hkeep:Keep g.S w (w.alloc (.cells vs e)):=Keep.push hR.hp.lt rfl
 refine hF _ (.inl hk) (g.set d w.heap.size 0 0) _ _ (StepOK.alloc _ d 0 0 _ (.cells vs e) hR.hp.lt rfl rfl rfl rfl ?_) (Fresh.of_clean hcl) ?_
 ·refine ⟨by simp [Gh.set],vs,e,(0,0),?_,hl,⟨unfrozen_zero _,ht⟩,fun i x hx=>((hv i x hx).1).newer hkeep (hv i x hx).2⟩
  have e1:(g.set d w.heap.size 0 0).ρ d=w.heap.size:=by simp [Gh.set]
  rw [e1];exact heap_alloc_new w _
 ·have:(g.set d w.heap.size 0 0).ρ d=w.heap.size:=by simp [Gh.set]
  have h:=VR.ptr (g:=g.set d w.heap.size 0 0) (w:=w.alloc (.cells vs e)) d 0
  rw [this] at h;exact h
theorem cOKs_inv:∀{cs:List V} {vs:List Value},cOKs cs vs=true→vs.length=cs.length∧∀(i:Nat) (x:V),cs[i]?=some x→∃u,vs[i]?=some u∧cOK x u=true
 | [],[],_=>⟨rfl,fun i x h=>by simp at h⟩
 | [],_::_,h=>by simp [cOKs] at h
 | _::_,[],h=>by simp [cOKs] at h
 | x::cs,v::vs,h=>by
  simp only [cOKs,Bool.and_eq_true] at h
  obtain ⟨h1,h2⟩:=cOKs_inv h.2
  refine ⟨by simp [h1],fun i y hy=>?_⟩
  cases i with
  | zero=>simp at hy;subst hy;exact ⟨v,rfl,h.1⟩
  | succ i=>simp at hy ⊢;exact h2 i y hy
theorem cOK_no {n:Nat} {v:V} {u:Value} (h:cOK v u=true):v.has n=false :=
 Opd.no (σ:=⟨[],[]⟩) rfl (.c v) (.const u) h
theorem zero_of {t:TypeId} {zs:List V} (h:zeroOK P t zs=true):∃z:Value,(∀w':World,(zeroValue t).run P w'=.ok z w')∧z.cells.size=zs.length ∧
  ∀(S:Nat→Prop) (w':World) (i:Nat) (x:V),zs[i]?=some x→Rd S w' (z.cells.getD i undef) x∧∀n,x.has n=false:=by
 unfold zeroOK at h
 split at h<;>try (cases h;done)
 rename_i i hi
 split at h<;>try (cases h;done)
 rename_i z hz
 obtain ⟨h1,h2⟩:=cOKs_inv h
 refine ⟨z,fun w'=>by simp [zeroValue,typeInfo,hi,hz],by simpa using h1,fun S w' j x hx=>?_⟩
 obtain ⟨u,hu,hok⟩:=h2 j x hx
 have e:z.cells.getD j undef=u:=by
  simp only [Array.getElem?_toList] at hu
  simp [Array.getD_eq_getD_getElem?,hu]
 rw [e]
 exact ⟨cOK_rd hok,fun n=>cOK_no hok⟩
theorem s_alloc {zs:List V} {t:Option TypeId} (hok:(MIns.alloc zs t).ok P o.op=true) (hR:Rel P c g σ a w) {d:Nat} (hcl:Clean c σ d) {vs:List V} (h:stepV P (.alloc zs t) d vs ob K L) (hF:Fin o c g σ a w K L K'):o.wp P a w K' Q':=by
 have:∃e,o.op=.alloc e∧zeroOK P e zs=true∧tyOK t e (0,0):=by
  cases ho:o.op<;>rw [ho] at hok<;>try (simp [MIns.ok] at hok;done)
  simp only [MIns.ok,Bool.and_eq_true] at hok
  refine ⟨_,rfl,hok.1,?_⟩
  cases t with
  | none=>exact trivial
  | some u =>
   have h2:=hok.2
   simp only [Bool.and_eq_true,Bool.not_eq_true'] at h2
   simp only [tyOK,h2.2,cond_false]
   exact Nat.eq_of_beq_eq_true h2.1
 obtain ⟨e,ho,hz,hty⟩:=this
 obtain ⟨z,hrun,hl,hv⟩:=zero_of hz
 have hk:K ⟨.ptr d 0,[],[(d,.cells zs t)]⟩:=by unfold stepV at h;exact h
 refine fin_cells hR hF hcl (vs:=z.cells) (e:=e) hl (fun i x hx=>⟨.rd (hv g.S w i x hx).1,(hv g.S w i x hx).2 d⟩) ?_ hty hk
 simp [execOp,ho,Instr.alloc,hrun w,newVar,newRow]
theorem s_box {x:Opd} (hok:(MIns.box x).ok P o.op=true) (hR:Rel P c g σ a w) {d:Nat} (hcl:Clean c σ d) (h:stepV P (.box x) d [x.ev σ.env] ob K L) (hF:Fin o c g σ a w K L K'):o.wp P a w K' Q':=by
 have:∃e y,o.op=.box e y∧x.ok y=true:=by
  cases ho:o.op<;>rw [ho] at hok<;>try (simp [MIns.ok] at hok;done)
  exact ⟨_,_,rfl,hok⟩
 obtain ⟨e,y,ho,hx⟩:=this
 have vx:=Opd.vr hR hx
 have hno:=Opd.no hcl.2.1 x y hx
 have hrun:(execOp a.eval o).run P w=.ok (.value (.pointer (some ⟨w.heap.size,0,none⟩))) (w.alloc (.cells (a.eval y).cells e)):=by
  simp [execOp,ho,Instr.box,newVar,newRow]
 have hk:(x.ev σ.env).nany=true∧K ⟨.ptr d 0,[],[(d,.cells (x.ev σ.env).cells none)]⟩:=by
  simp only [stepV] at h
  unfold sBox at h
  split at h
  ·exact h.elim
  ·exact h.elim
  ·rename_i cs hc;rw [hc];exact ⟨rfl,h⟩
  ·rename_i hn1 hn3 hn2
   refine ⟨by cases hc:x.ev σ.env<;>first|rfl|exact absurd hc hn1|exact absurd hc (hn3 _ _),?_⟩
   have:(x.ev σ.env).cells=[x.ev σ.env]:=by
    cases hc:x.ev σ.env<;>first|rfl|(rw [hc] at hn2;exact absurd rfl (hn2 _))
   rw [this];exact h
 obtain ⟨hl,hv⟩:=vx.cells_of hk.1
 refine fin_cells hR hF hcl hl (fun i q hq=>⟨hv i q hq,?_⟩) hrun (t:=none) trivial hk.2
 have hm:=List.mem_of_getElem? hq
 cases hc:x.ev σ.env with
 | agg cs =>
  rw [hc] at hm hno
  exact V.hasL_mem hm hno
 | _ =>
  rw [hc] at hm hno
  simp [V.cells] at hm
  rw [hm];exact hno
theorem foldl_set:∀(l:List Value) (s off:Nat) (cs:Array Value),off+s+l.length≤cs.size →
  ((l.zipIdx s).foldl (fun cs p=>cs.setIfInBounds (off+p.2) p.1) cs).size=cs.size ∧
  ∀i,((l.zipIdx s).foldl (fun cs p=>cs.setIfInBounds (off+p.2) p.1) cs)[i]?=if off+s≤i∧i<off+s+l.length then l[i - (off+s)]? else cs[i]?
 | [],s,off,cs,_=>⟨rfl,fun i=>by simp;intro h1 h2;omega⟩
 | v::l,s,off,cs,h=>by
  obtain ⟨h1,h2⟩:=foldl_set l (s+1) off (cs.setIfInBounds (off+s) v) (by simp at h ⊢;omega)
  simp only [List.zipIdx_cons,List.foldl_cons]
  refine ⟨by rw [h1];simp,fun i=>?_⟩
  rw [h2]
  simp only [List.length_cons] at h ⊢
  by_cases e:i=off+s
  ·subst e
   rw [if_neg (by omega),if_pos (by omega)]
   have:off+s<cs.size:=by omega
   simp [this]
  ·by_cases hin:off+(s+1)≤i∧i<off+(s+1)+l.length
   ·rw [if_pos hin,if_pos (by omega)]
    obtain ⟨j,hj⟩:∃j,i - (off+s)=j+1:=⟨i - (off+s) - 1,by omega⟩
    rw [hj,List.getElem?_cons_succ]
    congr 1;omega
   ·rw [if_neg hin,if_neg (by omega)]
    have hne:¬off+s=i:=fun h=>e h.symm
    rw [Array.getElem?_setIfInBounds_ne hne]
theorem fill_fillV {w0:World} (place:Nat→Option (Nat×Nat)):∀(parts:List (Nat×Value)) (ps:List (Nat×Nat×V)) (cells:Array Value) (cs cs':List V),
  parts.length=ps.length→(∀(i:Nat) (pt:Nat×Value) (q:Nat×Nat×V),parts[i]?=some pt→ps[i]?=some q→place pt.1=some (q.1,q.2.1)∧VR g w0 pt.2 q.2.2) →
  cells.size=cs.length→(∀(i:Nat) (x:V),cs[i]?=some x→VR g w0 (cells.getD i undef) x)→fillV cs ps=some cs' →
  ∃cells',Instr.fill place cells parts=some cells'∧cells'.size=cs'.length∧∀(i:Nat) (x:V),cs'[i]?=some x→VR g w0 (cells'.getD i undef) x:=by
 intro parts
 induction parts with
 | nil =>
  intro ps cells cs cs' hl _ hs hv hf
  cases ps with
  | cons _ _=>simp at hl
  | nil=>simp [fillV] at hf;subst hf;exact ⟨cells,rfl,hs,hv⟩
 | cons pt parts ih =>
  intro ps cells cs cs' hl hp hs hv hf
  cases ps with
  | nil=>simp at hl
  | cons q ps =>
   obtain ⟨off,n,x⟩:=q
   obtain ⟨i,v⟩:=pt
   obtain ⟨h1,h2⟩:=hp 0 (i,v) (off,n,x) rfl rfl
   simp only at h1 h2
   simp only [fillV] at hf
   by_cases hb:(x.nany&&Nat.beq x.cells.length n&&Nat.ble (off+n) cs.length)=true
   case neg=>simp [hb] at hf
   simp only [hb,cond_true] at hf
   simp only [Bool.and_eq_true] at hb
   obtain ⟨hvl,hvc⟩:=h2.cells_of hb.1.1
   have hn:x.cells.length=n:=by simpa using hb.1.2
   have hle:off+n≤cs.length:=by simpa using hb.2
   have hnn:¬(v.cells.size≠n):=by omega
   have hgg:¬(off+v.cells.size > cells.size):=by omega
   have key:=foldl_set v.cells.toList 0 off cells (by simp;omega)
   simp only [Nat.add_zero,Array.length_toList] at key
   obtain ⟨k1,k2⟩:=key
   have hfold:v.cells.zipIdx.foldl (fun cs (p:Value×Nat)=>cs.setIfInBounds (off+p.2) p.1) cells=(v.cells.toList.zipIdx 0).foldl (fun cs p=>cs.setIfInBounds (off+p.2) p.1) cells:=by
    rw [←Array.foldl_toList];simp [Array.toList_zipIdx]
   have hcells:∀(j:Nat) (y:V),(setCells cs off x.cells)[j]?=some y→VR g w0 (((v.cells.toList.zipIdx 0).foldl (fun cs p=>cs.setIfInBounds (off+p.2) p.1) cells).getD j undef) y:=by
    intro j y hy
    have hg:∀u,((v.cells.toList.zipIdx 0).foldl (fun cs p=>cs.setIfInBounds (off+p.2) p.1) cells)[j]?=some u→((v.cells.toList.zipIdx 0).foldl (fun cs p=>cs.setIfInBounds (off+p.2) p.1) cells).getD j undef=u:=by
     intro u hu;simp [Array.getD_eq_getD_getElem?,hu]
    simp only [setCells,List.getElem?_append,List.length_append,List.length_take,Nat.min_eq_left (show off≤cs.length by omega)] at hy
    have hk:=k2 j
    by_cases hj1:j<off
    ·rw [if_pos (by omega),if_pos (by omega),List.getElem?_take,if_pos hj1] at hy
     rw [if_neg (by omega)] at hk
     have:=hv j y hy
     have hlt:j<cells.size:=by omega
     rw [Array.getElem?_eq_getElem hlt] at hk
     rw [hg _ hk]
     simpa [Array.getD_eq_getD_getElem?,hlt] using this
    ·by_cases hj2:j<off+x.cells.length
     ·rw [if_pos (by omega),if_neg (by omega)] at hy
      rw [if_pos (by omega)] at hk
      have h4:=hvc (j - off) y hy
      have hlt:j - off<v.cells.size:=by omega
      rw [Array.getElem?_toList,Array.getElem?_eq_getElem hlt] at hk
      rw [hg _ hk]
      simpa [Array.getD_eq_getD_getElem?,hlt] using h4
     ·rw [if_neg (by omega),List.getElem?_drop] at hy
      rw [if_neg (by omega)] at hk
      have e1:off+x.cells.length+(j - (off+x.cells.length))=j:=by omega
      rw [e1] at hy
      have:=hv j y hy
      have hlt:j<cells.size:=by
       have:=(List.getElem?_eq_some_iff.1 hy).1;omega
      rw [Array.getElem?_eq_getElem hlt] at hk
      rw [hg _ hk]
      simpa [Array.getD_eq_getD_getElem?,hlt] using this
   obtain ⟨cells',r1,r2,r3⟩:=ih ps ((v.cells.toList.zipIdx 0).foldl (fun cs p=>cs.setIfInBounds (off+p.2) p.1) cells) (setCells cs off x.cells) cs' (by simpa using hl)
    (fun j pt q hj hq=>hp (j+1) pt q (by simpa using hj) (by simpa using hq)) (by rw [k1,hs];simp [setCells];omega) hcells hf
   refine ⟨cells',?_,r2,r3⟩
   simp only [Instr.fill,h1]
   rw [show (fun (cs:Array Value) (x:Value×Nat)=>match x with|(c,j)=>cs.setIfInBounds (off+j) c)=(fun cs (p:Value×Nat)=>cs.setIfInBounds (off+p.2) p.1) from rfl,hfold]
   simp only [ne_eq,gt_iff_lt,Bool.or_eq_true,decide_eq_true_eq] at *
   rw [if_neg (by omega)]
   exact r1
end
end Go.Ab
