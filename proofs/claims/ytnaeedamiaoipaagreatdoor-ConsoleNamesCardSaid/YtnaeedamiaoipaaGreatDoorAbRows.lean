/- The abstract layer: rows of rows that a function has made, as a value. -/
import Derived.Test.YtnaeedamiaoipaaGreatDoorAbSort
import Derived.Deep.OwnRows
set_option linter.all false
set_option linter.unusedVariables false
namespace Go.Ab
open Go.RowKit Go.Deep
theorem rd_row {S:Nat→Prop} {w:World} {b:Nat} {t:TypeId} {n:Nat} {f:Nat→Value} {F:Nat→V} (h:w.rowIs b t n f) (hS:S b) (hn:n≤maxLen) (hF:∀i,i<n→Rd S w (f i) (F i)) (hc:∀i,i<n→(F i).cells=[F i]∧(F i).one=true∧(F i).sealed=true) :
  Rd S w (.slice (some ⟨b,0,none⟩) n n) (.sl ((List.range n).map F)):=by
 obtain ⟨c,hb,hsz,hcell⟩:=h
 refine .sl b 0 n n 1 c t (0,0) _ hS hb (by simp) hn (Nat.le_refl _) (.inr (by omega)) (fun x hx=>?_) fun i j x y hi hj=>?_
 ·obtain ⟨i,hi,rfl⟩:=List.mem_map.1 hx
  obtain ⟨h1,h2,h3⟩:=hc i (List.mem_range.1 hi)
  refine ⟨by rw [h1];rfl,fun y hy=>?_,h3⟩
  rw [h1] at hy
  simp only [List.mem_singleton] at hy
  subst hy;exact h2
 ·rw [List.getElem?_map] at hi
  cases hr:(List.range n)[i]? with
  | none=>rw [hr] at hi;cases hi
  | some q =>
   rw [hr] at hi
   simp only [Option.map_some,Option.some.injEq] at hi
   obtain ⟨hlt,hq⟩:=List.getElem?_eq_some_iff.1 hr
   simp only [List.getElem_range,List.length_range] at hq hlt
   subst hq
   obtain ⟨h1,h2,h3⟩:=hc i hlt
   rw [←hi,h1] at hj
   cases j with
   | succ j=>simp at hj
   | zero =>
    simp at hj
    subst hj
    have e:c.getD (0+i*1+0) undef=f i:=by
     have:=hcell i hlt
     simp [Array.getD_eq_getD_getElem?,this]
    rw [e];exact hF i hlt
theorem rd_rows {S:Nat→Prop} {w:World} {b t tb n m:Nat} {bs:Nat→Nat} {Z:Nat→Nat→Bool} (h0:w.rowIs b t n fun j=>.slice (some ⟨bs j,0,none⟩) m m) (h1:∀j,j<n→w.rowIs (bs j) tb m fun i=>.bool (Z j i))
  (hS:S b) (hSs:∀j,j<n→S (bs j)) (hn:n≤maxLen) (hm:m≤maxLen):Rd S w (.slice (some ⟨b,0,none⟩) n n) (.sl ((List.range n).map fun j=>.sl ((List.range m).map fun i=>.bool (Z j i)))) :=
 rd_row h0 hS hn (fun j hj=>rd_row (h1 j hj) (hSs j hj) hm (fun i _=>.bool _) fun i _=>⟨rfl,rfl,rfl⟩) fun j _=>⟨rfl,rfl,rfl⟩
theorem acall_fresh {P:Program} {f:Nat} {args:List V} {r:V} (hc:callable P f=true)
  (h:∀(g:Gh) w (vals:Array Value),HRel P g w []→vals.size=args.length→(∀(i:Nat) (x:V),args[i]?=some x→VR g w (vals.getD i undef) x) →
   Calls P f vals w fun en w'=>∃v,en=.returned v∧w.Since w.heap.size w'∧Rd (fun b=>g.S b∨(w.heap.size≤b∧b<w'.heap.size)) w' v r):ACall P f args [] (fun r' H'=>r'=r∧H'=[]):=by
 refine acall_step ⟨r,[],[]⟩ hc fun g w vals hH hsz hv=>(h g w vals hH hsz hv).mono ?_
 rintro en w' ⟨v,rfl,hs,hr⟩
 refine ⟨v,{ g with S:=fun b=>g.S b∨(w.heap.size≤b∧b<w'.heap.size) },rfl,⟨hs.os,hs.tape,hs.output,hs.size,fun b hb _=>hs.block b hb,fun _ h=>.inl h,fun b hb=>hb.elim .inl fun e=>.inr (.inl e.1),fun b hb=>?_,fun id _=>⟨rfl,rfl,rfl,Iff.rfl⟩,fun _ _ h=>by simp at h,fun _ _ h=>by simp at h,fun _ _ _ _ h=>by simp at h,fun _ _ h=>by simp at h⟩,fun _ _ h=>by simp at h,.rd hr⟩
 rcases hb with hb|hb
 ·exact Nat.lt_of_lt_of_le (hH.lt b hb) hs.size
 ·exact hb.2
end Go.Ab
