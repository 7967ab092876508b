/- The abstract layer, part 15: regions that draw their order. -/
import Derived.Test.YtnaeedamiaoipaaGreatDoorAbAtom
set_option linter.all false
set_option linter.unusedSimpArgs false
set_option linter.unusedVariables false
namespace Go.Ab
open Go.RowKit
def sCallD (P:Program) (f:V) (args:List V) (ids news:List Nat) (ob:Nat→Option Obj') (L:Eff→Prop):Prop :=
 match f with
 | .fn (.func n) cap=>match subH ids ob with
  | some H=>∃r H',ACall P n (args++cap) H (fun r' H''=>r'=r∧H''=H')∧inIds H' ids news=true∧L ⟨r,ids,H'⟩
  | none=>False
 | .fn (.yield n) fs=>match subH ids ob with
  | some H=>∃r H',ACall P n (fs++args) H (fun r' H''=>r'=r∧H''=H')∧inIds H' ids news=true∧L ⟨r,ids,H'⟩
  | none=>False
 | _=>False
def stepD (P:Program) (i:MIns) (d:Nat) (vs:List V) (ob:Nat→Option Obj') (K L:Eff→Prop):Prop :=
 match i,vs with
 | .call _ _ ids news,f::args=>sCallD P f args ids news ob L
 | .mp .nxt _,_=>False
 | .mp (.isn _) _,_=>False
 | i,vs=>stepV P i d vs ob K L
theorem evl_inj (v:V):(fun r=>evl r=evl v)=fun u=>u=v:=by
 funext r;simp [evl]
theorem eup_inj (id:Nat) (o:Obj'):(fun i p=>eup i p=eup id o)=fun i p=>i=id∧p=o:=by
 funext i p;simp [eup]
theorem step_atom {P:Program} {i:MIns} {d:Nat} {vs:List V} {ob:Nat→Option Obj'} {K L:Eff→Prop} (h:stepD P i d vs ob K L) :
  ∃e,(K e∨L e)∧stepV P i d vs ob (fun u=>u=e) (fun u=>u=e):=by
 cases i with
 | mv x =>
  match vs,h with
  | [y],h=>exact ⟨_,.inl h,rfl⟩
  | [],h=>exact h.elim
  | _::_::_,h=>exact h.elim
 | pick a b c =>
  match vs,h with
  | [x,y,z],h=>obtain ⟨v,h1,h2⟩:=sPick_at (K:=fun x=>K (evl x)) h;exact ⟨evl v,.inl h1,by simp only [stepV,evl_inj];exact h2⟩
  | [],h=>exact h.elim
  | [_],h=>exact h.elim
  | [_,_],h=>exact h.elim
  | _::_::_::_::_,h=>exact h.elim
 | alloc zs=>exact ⟨_,.inl (by simpa only [stepD,stepV] using h),by simp only [stepV]⟩
 | box a =>
  match vs,h with
  | [x],h=>obtain ⟨v,h1,h2⟩:=sBox_at h;exact ⟨v,.inl h1,h2⟩
  | [],h=>exact h.elim
  | _::_::_,h=>exact h.elim
 | build zs ps =>
  simp only [stepD,stepV] at h ⊢
  cases hf:fillV zs ((ps.zip vs).map fun p=>(p.1.1,p.1.2.1,p.2)) with
  | none=>rw [hf] at h;exact h.elim
  | some cs=>rw [hf] at h;exact ⟨_,.inl h,rfl⟩
 | bslice k xs uv =>
  simp only [stepD,stepV] at h ⊢
  cases hf:vs.all (okElem k) with
  | false=>rw [hf] at h;exact h.elim
  | true=>rw [hf] at h;exact ⟨_,.inl h,rfl⟩
 | ld n a =>
  match vs,h with
  | [x],h=>obtain ⟨v,h1,h2⟩:=sLd_at (K:=fun x=>K (evl x)) (L:=fun x=>L (evl x)) h;exact ⟨evl v,h1,by simp only [stepV,evl_inj];exact h2⟩
  | [],h=>exact h.elim
  | _::_::_,h=>exact h.elim
 | st n a b =>
  match vs,h with
  | [x,y],h=>obtain ⟨id,o,h1,h2⟩:=sSt_at (K:=fun i o=>K (eup i o)) (L:=fun i o=>L (eup i o)) h;exact ⟨eup id o,h1,by simp only [stepV,eup_inj];exact h2⟩
  | [],h=>exact h.elim
  | [_],h=>exact h.elim
  | _::_::_::_,h=>exact h.elim
 | nck a =>
  match vs,h with
  | [x],h=>obtain ⟨v,h1,h2⟩:=sNck_at (K:=fun x=>K (evl x)) h;exact ⟨evl v,.inl h1,by simp only [stepV,evl_inj];exact h2⟩
  | [],h=>exact h.elim
  | _::_::_,h=>exact h.elim
 | bin ch op a b =>
  match vs,h with
  | [x,y],h=>obtain ⟨v,h1,h2⟩:=sBin_at (K:=fun x=>K (evl x)) h;exact ⟨evl v,.inl h1,by simp only [stepV,evl_inj];exact h2⟩
  | [],h=>exact h.elim
  | [_],h=>exact h.elim
  | _::_::_::_,h=>exact h.elim
 | mask m a k =>
  match vs,h with
  | [x],h=>obtain ⟨v,h1,h2⟩:=sMask_at (K:=fun x=>K (evl x)) h;exact ⟨evl v,.inl h1,by simp only [stepV,evl_inj];exact h2⟩
  | [],h=>exact h.elim
  | _::_::_,h=>exact h.elim
 | beq ng a b =>
  match vs,h with
  | [x,y],h=>obtain ⟨v,h1,h2⟩:=sBeq_at (K:=fun x=>K (evl x)) h;exact ⟨evl v,.inl h1,by simp only [stepV,evl_inj];exact h2⟩
  | [],h=>exact h.elim
  | [_],h=>exact h.elim
  | _::_::_::_,h=>exact h.elim
 | eqs ng ks a b =>
  match vs,h with
  | [x,y],h=>obtain ⟨v,h1,h2⟩:=sEqs_at (K:=fun x=>K (evl x)) h;exact ⟨evl v,.inl h1,by simp only [stepV,evl_inj];exact h2⟩
  | [],h=>exact h.elim
  | [_],h=>exact h.elim
  | _::_::_::_,h=>exact h.elim
 | not a =>
  match vs,h with
  | [x],h=>obtain ⟨v,h1,h2⟩:=sNot_at (K:=fun x=>K (evl x)) h;exact ⟨evl v,.inl h1,by simp only [stepV,evl_inj];exact h2⟩
  | [],h=>exact h.elim
  | _::_::_,h=>exact h.elim
 | neg ch a =>
  match vs,h with
  | [x],h=>obtain ⟨v,h1,h2⟩:=sNeg_at (K:=fun x=>K (evl x)) h;exact ⟨evl v,.inl h1,by simp only [stepV,evl_inj];exact h2⟩
  | [],h=>exact h.elim
  | _::_::_,h=>exact h.elim
 | i2i ch k a =>
  match vs,h with
  | [x],h=>obtain ⟨v,h1,h2⟩:=sI2i_at (K:=fun x=>K (evl x)) h;exact ⟨evl v,.inl h1,by simp only [stepV,evl_inj];exact h2⟩
  | [],h=>exact h.elim
  | _::_::_,h=>exact h.elim
 | idc a =>
  match vs,h with
  | [x],h=>obtain ⟨v,h1,h2⟩:=sIdc_at (K:=fun x=>K (evl x)) h;exact ⟨evl v,.inl h1,by simp only [stepV,evl_inj];exact h2⟩
  | [],h=>exact h.elim
  | _::_::_,h=>exact h.elim
 | s2b a =>
  match vs,h with
  | [x],h=>obtain ⟨v,h1,h2⟩:=sS2b_at h;exact ⟨v,.inl h1,h2⟩
  | [],h=>exact h.elim
  | _::_::_,h=>exact h.elim
 | mks a =>
  match vs,h with
  | [x],h=>obtain ⟨v,h1,h2⟩:=sMks_at h;exact ⟨v,.inl h1,h2⟩
  | [],h=>exact h.elim
  | _::_::_,h=>exact h.elim
 | b2s a =>
  match vs,h with
  | [x],h=>obtain ⟨v,h1,h2⟩:=sB2s_at (K:=fun x=>K (evl x)) (L:=fun x=>L (evl x)) h;exact ⟨evl v,h1,by simp only [stepV,evl_inj];exact h2⟩
  | [],h=>exact h.elim
  | _::_::_,h=>exact h.elim
 | mkfn f cap=>exact ⟨_,.inl (by simpa only [stepD,stepV] using h),by simp only [stepV]⟩
 | mksl k bytes z a b =>
  match vs,h with
  | [x,y],h=>obtain ⟨v,h1,h2⟩:=sMksl_at h;exact ⟨v,.inl h1,h2⟩
  | [],h=>exact h.elim
  | [_],h=>exact h.elim
  | _::_::_::_,h=>exact h.elim
 | sls a lo hi =>
  match vs,h with
  | x::r,h=>obtain ⟨v,h1,h2⟩:=sSls_at (K:=fun x=>K (evl x)) h;exact ⟨evl v,.inl h1,by simp only [stepV,evl_inj];exact h2⟩
  | [],h=>exact h.elim
 | slc k a lo hi =>
  match vs,h with
  | x::r,h=>obtain ⟨v,h1,h2⟩:=sSlc_at (K:=fun x=>K (evl x)) h;exact ⟨evl v,.inl h1,by simp only [stepV,evl_inj];exact h2⟩
  | [],h=>exact h.elim
 | fad off a =>
  match vs,h with
  | [x],h=>obtain ⟨v,h1,h2⟩:=sFad_at (K:=fun x=>K (evl x)) h;exact ⟨evl v,.inl h1,by simp only [stepV,evl_inj];exact h2⟩
  | [],h=>exact h.elim
  | _::_::_,h=>exact h.elim
 | fld n off a =>
  match vs,h with
  | [x],h=>obtain ⟨v,h1,h2⟩:=sFld_at (K:=fun x=>K (evl x)) h;exact ⟨evl v,.inl h1,by simp only [stepV,evl_inj];exact h2⟩
  | [],h=>exact h.elim
  | _::_::_,h=>exact h.elim
 | iad k a b =>
  match vs,h with
  | [x,y],h=>obtain ⟨v,h1,h2⟩:=sIad_at (K:=fun x=>K (evl x)) (L:=fun x=>L (evl x)) h;exact ⟨evl v,h1,by simp only [stepV,evl_inj];exact h2⟩
  | [],h=>exact h.elim
  | [_],h=>exact h.elim
  | _::_::_::_,h=>exact h.elim
 | idx a b =>
  match vs,h with
  | [x,y],h=>obtain ⟨v,h1,h2⟩:=sIdx_at (K:=fun x=>K (evl x)) h;exact ⟨evl v,.inl h1,by simp only [stepV,evl_inj];exact h2⟩
  | [],h=>exact h.elim
  | [_],h=>exact h.elim
  | _::_::_::_,h=>exact h.elim
 | aix n k cnt a b =>
  match vs,h with
  | [x,y],h=>obtain ⟨v,h1,h2⟩:=sAix_at (K:=fun x=>K (evl x)) h;exact ⟨evl v,.inl h1,by simp only [stepV,evl_inj];exact h2⟩
  | [],h=>exact h.elim
  | [_],h=>exact h.elim
  | _::_::_::_,h=>exact h.elim
 | aad k cnt a b =>
  match vs,h with
  | [x,y],h=>obtain ⟨v,h1,h2⟩:=sAad_at (K:=fun x=>K (evl x)) h;exact ⟨evl v,.inl h1,by simp only [stepV,evl_inj];exact h2⟩
  | [],h=>exact h.elim
  | [_],h=>exact h.elim
  | _::_::_::_,h=>exact h.elim
 | barr k zs xs =>
  simp only [stepD,stepV] at h ⊢
  cases hf:fillV zs (arrParts k 0 vs) with
  | none=>rw [hf] at h;exact h.elim
  | some cs=>rw [hf] at h;exact ⟨_,.inl h,rfl⟩
 | lsl k xs =>
  simp only [stepD,stepV] at h ⊢
  cases hf:vs.all (okElem k) with
  | false=>rw [hf] at h;exact h.elim
  | true=>rw [hf] at h;exact ⟨_,.inl h,rfl⟩
 | ls2b a =>
  match vs,h with
  | [x],h=>obtain ⟨v,h1,h2⟩:=sLs2b_at (K:=fun x=>K (evl x)) h;exact ⟨evl v,.inl h1,by simp only [stepV,evl_inj];exact h2⟩
  | [],h=>exact h.elim
  | _::_::_,h=>exact h.elim
 | ext i a =>
  match vs,h with
  | [x],h=>obtain ⟨v,h1,h2⟩:=sExt_at (K:=fun x=>K (evl x)) h;exact ⟨evl v,.inl h1,by simp only [stepV,evl_inj];exact h2⟩
  | [],h=>exact h.elim
  | _::_::_,h=>exact h.elim
 | len s a =>
  match vs,h with
  | [x],h=>obtain ⟨v,h1,h2⟩:=sLen_at (K:=fun x=>K (evl x)) h;exact ⟨evl v,.inl h1,by simp only [stepV,evl_inj];exact h2⟩
  | [],h=>exact h.elim
  | _::_::_,h=>exact h.elim
 | app k bytes a b =>
  match vs,h with
  | [x,y],h=>obtain ⟨v,h1,h2⟩:=sApp_at h;exact ⟨v,.inl h1,h2⟩
  | [],h=>exact h.elim
  | [_],h=>exact h.elim
  | _::_::_::_,h=>exact h.elim
 | mm mx a b =>
  match vs,h with
  | [x,y],h=>obtain ⟨v,h1,h2⟩:=sMm_at (K:=fun x=>K (evl x)) h;exact ⟨evl v,.inl h1,by simp only [stepV,evl_inj];exact h2⟩
  | [],h=>exact h.elim
  | [_],h=>exact h.elim
  | _::_::_::_,h=>exact h.elim
 | mp m xs =>
  by_cases hm:m=.nxt
  ·subst hm;exact h.elim
  ·by_cases hm2:∃b,m=.isn b
   ·obtain ⟨b,rfl⟩:=hm2;exact h.elim
   ·have h':sMap m d vs ob K L:=by
     cases m<;>first|exact h|exact absurd rfl hm|exact absurd ⟨_,rfl⟩ hm2
    obtain ⟨e,h1,h2⟩:=sMap_at hm (fun b e=>hm2 ⟨b,e⟩) h'
    exact ⟨e,.inl h1,h2⟩
 | call f args ids news =>
  match vs,h with
  | [],h=>exact h.elim
  | g::r,h =>
   simp only [stepD,sCallD] at h
   split at h
   ·split at h
    ·rename_i n cap H hH
     obtain ⟨r',H',h1,h2,h3⟩:=h
     refine ⟨_,.inr h3,?_⟩
     simp only [stepV,sCall,hH]
     exact h1.mono fun r2 H2 ⟨e1,e2⟩=>by subst e1;subst e2;simp only [h2,cond_true]
    ·exact h.elim
   ·split at h
    ·rename_i n cap H hH
     obtain ⟨r',H',h1,h2,h3⟩:=h
     refine ⟨_,.inr h3,?_⟩
     simp only [stepV,sCall,hH]
     exact h1.mono fun r2 H2 ⟨e1,e2⟩=>by subst e1;subst e2;simp only [h2,cond_true]
    ·exact h.elim
   ·exact h.elim
theorem subH_ob {ob ob':Nat→Option Obj'}:∀{ids:List Nat},(∀id∈ids,ob id=ob' id)→subH ids ob=subH ids ob'
 | [],_=>rfl
 | n::r,h=>by
  have h1:=h n List.mem_cons_self
  have h2:=subH_ob (ids:=r) fun id hid=>h id (List.mem_cons_of_mem _ hid)
  simp only [subH,h1,h2]
theorem appSrc_ob {ob ob':Nat→Option Obj'} {k:Nat} {y:V} (h:∀id∈vid y,ob id=ob' id):appSrc k y ob=appSrc k y ob':=by
 cases y<;>try rfl
 rename_i id k' lo n
 have:=h id (by simp [vid])
 simp only [appSrc,this]
theorem ments_ob {ob ob':Nat→Option Obj'} {x:V} {K:KD→List (V×V)→Prop} (h:∀id∈vid x,ob id=ob' id):ments x ob K=ments x ob' K:=by
 cases x<;>try rfl
 rename_i id
 have:=h id (by simp [vid])
 simp only [ments,this]
theorem shutV_ob {ob ob':Nat→Option Obj'}:∀{vs:List V},(∀id∈vs.flatMap vid,ob id=ob' id)→shutV ob vs=shutV ob' vs
 | [],_=>rfl
 | v::r,h=>by
  have ih:=shutV_ob (vs:=r) fun id hid=>h id (by simp only [List.flatMap_cons,List.mem_append];exact .inr hid)
  cases v<;>try (unfold shutV;simp only [ih];done)
  rename_i j q lo n
  have:=h j (by simp [vid])
  cases lo<;>simp only [shutV,this,ih]
theorem sMap_ob {ob ob':Nat→Option Obj'} {op:MapOp} {xs:List Opd} {d:Nat} {vs:List V} {K L:Eff→Prop} (h:∀id∈(MIns.mp op xs).touch vs,ob id=ob' id):sMap op d vs ob K L=sMap op d vs ob' K L:=by
 unfold sMap
 split
 ·rfl
 ·split
  ·rfl
  ·rfl
  ·exact ments_ob fun id hid=>h id (by simpa [MIns.touch] using hid)
 ·have:=h _ (by simp [MIns.touch,vid];rfl)
  simp only [this]
 ·have:=h _ (by simp [MIns.touch,vid];rfl)
  simp only [this]
 ·split
  ·rfl
  ·exact ments_ob fun id hid=>h id (by simpa [MIns.touch] using hid)
 ·rfl
 ·have:=h _ (by simp [MIns.touch,vid];rfl)
  simp only [this]
 ·have:=h _ (by simp [MIns.touch,vid];rfl)
  simp only [this]
 ·rfl
 ·rfl
 ·rename_i kd id k j q n
  have h1:=h id (by simp [MIns.touch,vid])
  have h2:=h j (by simp [MIns.touch,vid])
  simp only [h1,h2]
 ·rename_i id k i j q n
  have h1:=h id (by simp [MIns.touch,vid])
  have h2:=h j (by simp [MIns.touch,vid])
  simp only [h1,h2]
 ·have:shutV ob vs=shutV ob' vs:=shutV_ob fun id hid=>h id (by simp only [MIns.touch];exact hid)
  simp only [this]
 ·rfl
 ·rfl
 ·have:=h _ (by simp [MIns.touch,vid];rfl)
  simp only [this]
 ·rfl
 ·rfl
 ·rfl
 ·rename_i k bytes id k' lo n y
  have h1:=h id (by simp [MIns.touch,vid])
  have h2:=appSrc_ob (k:=k) (ob:=ob) (ob':=ob') (y:=y) fun i hi=>h i (by simp [MIns.touch,hi])
  simp only [h1,h2]
 ·rfl
theorem stepV_ob {P:Program} {i:MIns} {d:Nat} {vs:List V} {ob ob':Nat→Option Obj'} {K L:Eff→Prop} (ht:∀id∈i.touch vs,ob id=ob' id) (h:stepV P i d vs ob K L):stepV P i d vs ob' K L:=by
 cases i with
 | ld n a =>
  rcases vs with _|⟨x,_|⟨y,r⟩⟩
  ·exact h.elim
  ·change sLd n x ob _ _ at h
   change sLd n x ob' _ _
   cases x<;>try exact h
   ·rename_i id off
    have:=ht id (by simp [MIns.touch,vid])
    simp only [sLd,this] at h ⊢;exact h
   ·rename_i id k i off
    have:=ht id (by simp [MIns.touch,vid])
    simp only [sLd,this] at h ⊢;exact h
  ·exact h.elim
 | st n a b =>
  rcases vs with _|⟨x,_|⟨y,_|⟨z,r⟩⟩⟩
  ·exact h.elim
  ·exact h.elim
  ·change sSt n x y ob (fun id o=>K (eup id o)) (fun id o=>L (eup id o)) at h
   change sSt n x y ob' (fun id o=>K (eup id o)) (fun id o=>L (eup id o))
   cases x<;>try exact h
   ·rename_i id off
    have:=ht id (by simp [MIns.touch,vid])
    simp only [sSt,this] at h ⊢;exact h
   ·rename_i id k i off
    have:=ht id (by simp [MIns.touch,vid])
    simp only [sSt,this] at h ⊢;exact h
  ·exact h.elim
 | b2s a =>
  rcases vs with _|⟨x,_|⟨y,r⟩⟩
  ·exact h.elim
  ·change sB2s x ob (fun r=>K (evl r)) (fun r=>L (evl r)) at h
   change sB2s x ob' (fun r=>K (evl r)) (fun r=>L (evl r))
   cases x<;>try exact h
   ·rename_i id k lo n
    have:=ht id (by simp [MIns.touch,vid])
    simp only [sB2s,this] at h ⊢;exact h
  ·exact h.elim
 | mks a =>
  rcases vs with _|⟨x,_|⟨y,r⟩⟩
  ·exact h.elim
  ·change sMks x ob _ at h
   change sMks x ob' _
   cases x<;>try exact h
   ·rename_i id k lo n
    have:=ht id (by simp [MIns.touch,vid])
    simp only [sMks,this] at h ⊢;exact h
  ·exact h.elim
 | app k bytes a b ty =>
  rcases vs with _|⟨x,_|⟨y,_|⟨z,r⟩⟩⟩
  ·exact h.elim
  ·exact h.elim
  ·change sApp k bytes d ty x y ob _ at h
   change sApp k bytes d ty x y ob' _
   have hy:=appSrc_ob (k:=k) (ob:=ob) (ob':=ob') (y:=y) fun id hid=>ht id (by simp [MIns.touch,hid])
   unfold sApp at h ⊢
   rw [←hy]
   cases ha:appSrc k y ob with
   | none=>rw [ha] at h;exact h
   | some ys =>
    rw [ha] at h
    simp only at h ⊢
    obtain ⟨h0,h⟩:=h
    refine ⟨h0,?_⟩
    cases x<;>try exact h
    rename_i id k' lo n
    have:=ht id (by simp [MIns.touch,vid])
    simp only [this] at h ⊢;exact h
  ·exact h.elim
 | call f args ids news =>
  rcases vs with _|⟨x,r⟩
  ·exact h.elim
  ·change sCall P x r ids news ob _ at h
   change sCall P x r ids news ob' _
   have:=subH_ob (ids:=ids) (ob:=ob) (ob':=ob') fun id hid=>ht id (by simpa [MIns.touch] using hid)
   unfold sCall at h ⊢
   rw [this] at h
   exact h
 | mp m xs =>
  change sMap m d vs ob K L at h
  change sMap m d vs ob' K L
  rwa [sMap_ob (xs:=xs) (ob:=ob) (ob':=ob') ht] at h
 | alloc zs=>simp only [stepV] at h ⊢;exact h
 | mkfn f cap=>simp only [stepV] at h ⊢;exact h
 | build zs ps=>simp only [stepV] at h ⊢;exact h
 | bslice k xs uv=>simp only [stepV] at h ⊢;exact h
 | barr k zs xs=>simp only [stepV] at h ⊢;exact h
 | lsl k xs=>simp only [stepV] at h ⊢;exact h
 | sls a lo hi=>rcases vs with _|⟨x,r⟩<;>exact h
 | slc k a lo hi=>rcases vs with _|⟨x,r⟩<;>exact h
 | _=>rcases vs with _|⟨x,_|⟨y,_|⟨z,_|⟨u,r⟩⟩⟩⟩<;>exact h
end Go.Ab
