/- The abstract layer: rows of rows that a function has made, as a value. -/
import Derived.Test.YtbmjlaknnpmgpaaDoorAbSort
import Derived.Deep.OwnRows
set_option linter.all false
set_option linter.unusedVariables false
namespace Go.Ab
open Go.RowKit Go.Deep
theorem acall_fresh {P:Program} {f:Nat} {args:List V} {r:V} (hc:callable P f=true)
  (h:∀(g:Gh) w (vals:Array Value),HRel P g w []→vals.size=args.length→(∀(i:Nat) (x:V),args[i]?=some x→VR g w (vals.getD i undef) x) →
   Calls P f vals w fun en w'=>∃v,en=.returned v∧w.Since w.heap.size w'∧Rd (fun b=>g.S b∨(w.heap.size≤b∧b<w'.heap.size)) w' v r):ACall P f args [] (fun r' H'=>r'=r∧H'=[]):=by
 refine acall_step ⟨r,[],[]⟩ hc fun g w vals hH hsz hv=>(h g w vals hH hsz hv).mono ?_
 rintro en w' ⟨v,rfl,hs,hr⟩
 refine ⟨v,{ g with S:=fun b=>g.S b∨(w.heap.size≤b∧b<w'.heap.size) },rfl,⟨hs.os,hs.tape,hs.output,hs.size,fun b hb _=>hs.block b hb,fun _ h=>.inl h,fun b hb=>hb.elim .inl fun e=>.inr (.inl e.1),fun b hb=>?_,fun id _=>⟨rfl,rfl,rfl,Iff.rfl⟩,fun _ _ h=>by simp at h,fun _ _ h=>by simp at h,fun _ _ _ _ h=>by simp at h,fun _ _ h=>by simp at h⟩,fun _ _ h=>by simp at h,.rd hr⟩
 rcases hb with hb|hb
 ·exact Nat.lt_of_lt_of_le (hH.lt b hb) hs.size
 ·exact hb.2
end Go.Ab
