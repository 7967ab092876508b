/- The abstract layer: slices.Backward. -/
import Derived.Test.YtnaeedamiaoipaaGreatDoorAbSort
set_option linter.all false
namespace Go.Ab
open Go.RowKit
section
variable {P:Program}
theorem VR.sl_slice {g:Gh} {w:World} {v:Value} {xs:List V} (h:VR g w v (.sl xs)):(∃a len cap,v=.slice a len cap)∧Rd g.S w v (.sl xs):=by
 cases h with
 | rd h =>
  refine ⟨?_,h⟩
  cases h with
  | nilsl=>exact ⟨_,_,_,rfl⟩
  | slz a cap=>exact ⟨_,_,_,rfl⟩
  | sl g o len cap k cur e fz xs hS hg hl hm hc hb hk hr=>exact ⟨_,_,_,rfl⟩
theorem acall_backward {f f1:Nat} {ty:TypeId} (hc:callable P f=true)
  (h:∀(a:Option Addr) (len cap:Nat) (w:World),Calls P f #[.slice a len cap] w fun e w'=>e=.returned (.func (.func f1) #[] #[.pointer (some ⟨w.heap.size,0,none⟩)])∧w'=w.alloc (.cells #[.slice a len cap] ty)) (xs:List V) :
  ACall P f [.sl xs] [] (fun r H'=>r=.fn (.func f1) [.eptr (.agg [.sl xs]) 0]∧H'=[]):=by
 refine acall_step ⟨.fn (.func f1) [.eptr (.agg [.sl xs]) 0],[],[]⟩ hc fun g w vals hH hsz hv=>?_
 obtain ⟨⟨a,len,cap,e⟩,hrd⟩:=(hv 0 _ rfl).sl_slice
 have hval:vals=#[.slice a len cap]:=by
  have:vals.size=1:=hsz
  apply Array.ext
  ·simp [this]
  ·intro i h1 h2
   have:i=0:=by omega
   subst this
   simp only [List.getElem_toArray,List.getElem_cons_zero]
   rw [←e,Array.getD_eq_getD_getElem?,Array.getElem?_eq_getElem h1,Option.getD_some]
 rw [hval]
 rw [e] at hrd
 refine (h a len cap w).mono ?_
 rintro en w' ⟨rfl,rfl⟩
 have hold:∀b,b<w.heap.size→(w.alloc (.cells #[.slice a len cap] ty)).heap[b]?=w.heap[b]?:=fun b hb=>Below.heap_alloc _ _ _ hb
 have hnew:=World.alloc_heap_new w (.cells #[.slice a len cap] ty)
 refine ⟨_,{ g with S:=fun b=>g.S b∨b=w.heap.size },rfl,⟨rfl,rfl,rfl,by simp,fun b hb _=>hold b hb,fun _ h=>.inl h,fun b hb=>hb.elim .inl fun e=>.inr (.inl (by omega)),fun b hb=>?_,fun id _=>Gh.agree.refl _ _,fun _ _ h=>by simp at h,fun _ _ h=>by simp at h,fun _ _ _ _ h=>by simp at h,fun _ _ h=>by simp at h⟩,fun _ _ h=>by simp at h,?_⟩
 ·rcases hb with h|h
  ·have:=hH.lt b h;simp;omega
  ·simp;omega
 ·refine .fn _ _ _ rfl fun i c hi=>?_
  cases i with
  | succ i=>simp at hi
  | zero =>
   simp at hi;subst hi
   have:=VR.eptr (g:={ g with S:=fun b=>g.S b∨b=w.heap.size }) (w:=w.alloc (.cells #[.slice a len cap] ty)) w.heap.size 0 0 #[.slice a len cap] ty (0,0) (.agg [.sl xs]) (.inr rfl) hnew (by simp [V.cells]) (fun j c hj=>?_)
   ·simpa using this
   ·cases j with
    | succ j=>simp [V.cells] at hj
    | zero =>
     simp [V.cells] at hj;subst hj
     simpa using hrd.mono (S':=fun b=>g.S b∨b=w.heap.size) (fun b hS=>hold b (hH.lt b hS)) fun _ h=>.inl h
end
end Go.Ab
