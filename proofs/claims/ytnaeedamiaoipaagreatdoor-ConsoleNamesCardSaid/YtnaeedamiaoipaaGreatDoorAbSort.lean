/- The abstract layer: rows that the library sorts in place. -/
import Derived.Test.YtnaeedamiaoipaaGreatDoorAbFun
import Derived.Sort.Row
import Derived.Sort.Grow
import Derived.Laws.IdiomCopy
import Derived.Lib.SlicesCompact
set_option linter.all false
namespace Go.Ab
open Go.RowKit
section
variable {P:Program}
theorem acall_row {f:Nat} {args:List V} {xs ys:List V} {r:V} (hc:callable P f=true) (he:∀x∈ys,x.cells.length=1∧(∀c∈x.cells,c.one=true)∧x.sealed=true) (hl:ys.length=xs.length)
  (h : ∀(g:Gh) w (vals:Array Value),HRel P g w [(1000,.arr 1 xs)]→vals.size=args.length→(∀(i:Nat) (x:V),args[i]?=some x→VR g w (vals.getD i undef) x) →
   Calls P f vals w fun en w'=>∃v,en=.returned v∧VR g w' v r∧w'.os=w.os∧w'.tape=w.tape∧w'.output=w.output∧w.heap.size≤w'.heap.size∧(∀b,b<w.heap.size→(b≠g.ρ 1000∨g.nil 1000)→w'.heap[b]?=w.heap[b]?) ∧
    (g.nil 1000→ys=[])∧(¬g.nil 1000→∀cur e fz,w.heap[g.ρ 1000]?=some (.cells cur e fz)→∃cur':Array Value,w'.heap[g.ρ 1000]?=some (.cells cur' e fz)∧cur'.size=cur.size ∧
     ∀(i:Nat) (x c:V),ys[i]?=some x→x.cells[0]?=some c→Rd g.S w' (cur'.getD (g.base 1000+i) undef) c)) :
  ACall P f args [(1000,.arr 1 xs)] (fun r' H'=>r'=r∧H'=[(1000,.arr 1 ys)]):=by
 refine acall_step ⟨r,[],[(1000,.arr 1 ys)]⟩ hc fun g w vals hH hsz hv=>(h g w vals hH hsz hv).mono ?_
 rintro en w' ⟨v,rfl,hvr,h1,h2,h3,h4,h5,h6,h7⟩
 have hf:find 1000 [(1000,Obj'.arr 1 xs)]=some (.arr 1 xs):=by simp [find]
 have hO:=hH.obj 1000 _ hf
 refine ⟨v,g,rfl,⟨h1,h2,h3,h4,fun b hb hb'=>h5 b hb ?_,fun _ h=>h,fun b hb=>.inl hb,fun b hb=>Nat.lt_of_lt_of_le (hH.lt b hb) h4,fun id _=>Gh.agree.refl _ _,?_,?_,?_,?_⟩,?_,hvr⟩
 ·by_cases hn:g.nil 1000
  ·exact .inr hn
  ·exact .inl fun e=>hb' 1000 _ (by simp [Eff.ids]) hf hn e.symm
 ·intro id o ho
  simp at ho
  obtain ⟨rfl,rfl⟩:=ho
  rcases hO with ⟨hn,_⟩|⟨hn,ha⟩
  ·exact .inl ⟨hn,h6 hn⟩
  ·obtain ⟨cur,e,fz,k1,k2,k3,k4⟩:=ha.row
   obtain ⟨cur',q1,q2,q3⟩:=h7 hn cur e fz k1
   refine .inr ⟨hn,⟨ha.kpos,⟨cur',e,fz,q1,by rw [q2];exact k2,by rw [q2];exact k3,fun i j x c hi hj=>?_⟩,by rw [hl];exact ha.len,ha.big,he⟩⟩
   have hx:=he x (List.mem_of_getElem? hi)
   have hj0:j=0:=by
    have:=(List.getElem?_eq_some_iff.1 hj).1
    omega
   subst hj0
   simpa using q3 i x c hi hj
 ·intro id o ho hn
  simp at ho
  obtain ⟨rfl,rfl⟩:=ho
  exact .inr ⟨_,_,by simp [Eff.ids],hf,hn,rfl⟩
 ·intro i j o o' hi hj
  simp at hi hj
  intro _ _ _
  rw [hi.1,hj.1]
 ·intro id o ho hn hS
  simp at ho
  obtain ⟨rfl,rfl⟩:=ho
  exact hH.sep _ _ hf hn hS
 ·intro id o ho
  exact .inl (Gh.agree.refl _ _)
theorem ints_elem {zs:List Int}:∀x∈zs.map (V.int .i64),x.cells.length=1∧(∀c∈x.cells,c.one=true)∧x.sealed=true:=by
 intro x hx
 obtain ⟨z,_,rfl⟩:=List.mem_map.1 hx
 exact ⟨rfl,fun c hc=>by simp [V.cells] at hc;subst hc;rfl,rfl⟩
theorem row_ints {g:Gh} {w:World} {xs:List Int} (hO:OR g w 1000 (.arr 1 (xs.map (V.int .i64)))) (hn:¬g.nil 1000) :
  ∃(cur:Array Value) (e:TypeId) (fz:Nat×Nat),w.heap[g.ρ 1000]?=some (.cells cur e fz)∧g.base 1000+xs.length≤cur.size∧unfrozen fz cur.size∧(∀j,j<xs.length→cur[g.base 1000+j]?=some (.int .i64 (xs.getD j 0)))∧∀x∈xs,inR .i64 x:=by
 rcases hO with ⟨h,_⟩|⟨_,ha⟩
 ·exact absurd h hn
 obtain ⟨cur,e,fz,k1,k2,k3,k4⟩:=ha.row
 have hlen:g.base 1000+xs.length≤cur.size:=by
  have:=ha.len
  simp at this
  rw [k2];omega
 have hrd:∀j,(hj:j<xs.length)→cur.getD (g.base 1000+j) undef=.int .i64 xs[j]∧inR .i64 xs[j]:=fun j hj=>by
  have:=k4 j 0 (.int .i64 xs[j]) (.int .i64 xs[j]) (by simp [hj]) rfl
  have h2:Rd g.S w (cur.getD (g.base 1000+j) undef) (.int .i64 xs[j]):=by simpa using this
  exact (VR.rd (g:=g) h2).int_inv
 refine ⟨cur,e,fz,k1,hlen,k3.1,fun j hj=>?_,fun x hx=>?_⟩
 ·have:=(hrd j hj).1
  have hlt:g.base 1000+j<cur.size:=by omega
  rw [Array.getD_eq_getD_getElem?,Array.getElem?_eq_getElem hlt] at this
  rw [Array.getElem?_eq_getElem hlt]
  simp at this
  simp [this,hj]
 ·obtain ⟨j,hj,rfl⟩:=List.getElem_of_mem hx
  exact (hrd j hj).2
open Go.Shelf in
theorem acall_sortI {f:Nat} (hc:callable P f=true)
  (h1:∀(blk off cap:Nat) (zs:List Int) (w:World),Go.Sort.Holds (Value.int .i64) w blk off zs.toArray→blk<w.heap.size→zs.length<4611686018427387904 →
   Calls P f #[.slice (some ⟨blk,off,none⟩) zs.length cap] w fun e w'=>e=.returned (.tuple #[])∧∃n os,w'=Go.Sort.grow (Go.Sort.putRow (Value.int .i64) (Go.Sort.ahead w n) blk off (zs.mergeSort fun x y=>decide (x≤y)).toArray) os)
  (h2:∀(p:Option Addr) (cap:Nat) (w:World),Calls P f #[.slice p 0 cap] w fun e w'=>e=.returned (.tuple #[])∧w'=w) (xs:List Int) (hb:xs.length<4611686018427387904) :
  ACall P f [.osl 1000 1 0 xs.length] [(1000,.arr 1 (xs.map (V.int .i64)))] (fun r H'=>r=.tup []∧H'=[(1000,.arr 1 ((xs.mergeSort fun x y=>decide (x≤y)).map (V.int .i64)))]):=by
 refine acall_row hc ints_elem (by simp) fun g w vals hH hsz hv=>?_
 have hf:find 1000 [(1000,Obj'.arr 1 (xs.map (V.int .i64)))]=some (.arr 1 (xs.map (V.int .i64))):=by simp [find]
 have hO:=hH.obj 1000 _ hf
 have hv0:=hv 0 _ rfl
 have hval:vals=#[vals.getD 0 undef]:=by
  have:vals.size=1:=hsz
  apply Array.ext
  ·simp [this]
  ·intro i h1 h2
   have:i=0:=by omega
   subst this
   simp only [List.getElem_toArray,List.getElem_cons_zero]
   rw [Array.getD_eq_getD_getElem?,Array.getElem?_eq_getElem h1,Option.getD_some]
 rw [hval]
 by_cases h0:xs=[]
 ·subst h0
  have:∃p cap,vals.getD 0 undef=.slice p 0 cap:=by
   rcases hv0.osl_inv with ⟨_,e,_⟩|⟨_,o,c,e,_⟩
   ·exact ⟨none,0,e⟩
   ·exact ⟨_,c,e⟩
  obtain ⟨p,cap,e⟩:=this
  rw [e]
  refine (h2 p cap w).mono ?_
  rintro en w' ⟨rfl,rfl⟩
  refine ⟨_,rfl,.tup _ _ rfl fun i x hx=>by simp at hx,rfl,rfl,rfl,Nat.le_refl _,fun _ _ _=>rfl,fun _=>by simp,fun hn cur e fz hh=>⟨cur,hh,rfl,fun i x c hi=>by simp at hi⟩⟩
 ·have hlen:0<xs.length:=List.length_pos_iff.2 h0
  rcases hv0.osl_inv with ⟨_,_,e⟩|⟨hn,o,cc,ev,ho,_,hlc,_⟩
  ·omega
  have ho':o=g.base 1000:=by
   rcases ho with h|h
   ·omega
   ·simpa using h
  subst ho'
  rw [ev]
  obtain ⟨cur,e,fz,k1,k2,k3,k4,k5⟩:=row_ints hO hn
  have hHo:Go.Sort.Holds (Value.int .i64) w (g.ρ 1000) (g.base 1000) xs.toArray:=fun j hj=>by
   have hj':j<xs.length:=by simpa using hj
   refine ⟨?_,?_⟩
   ·simp only [World.cell?,k1]
    rw [k4 j hj']
    simp [hj']
   ·simp only [World.frozen?,k1]
    exact k3.at (by omega)
  refine (h1 _ _ cc xs w hHo (hO.block hn) hb).mono ?_
  rintro en w' ⟨rfl,n,os,rfl⟩
  have hblk:=hO.block hn
  refine ⟨_,rfl,.tup _ _ rfl fun i x hx=>by simp at hx,rfl,rfl,rfl,by simp [Go.Sort.grow,Go.Sort.ahead],fun b hb hne=>?_,fun h=>absurd h hn,fun _ cur0 e0 fz0 hh=>?_⟩
  ·have hne':b≠g.ρ 1000:=hne.resolve_right hn
   rw [Go.Sort.heap_grow_old _ _ (by simpa [Go.Sort.ahead] using hb)]
   simp [Go.Sort.putRow,Go.Sort.mapBlock,Array.getElem?_modify,hne'.symm,Go.Sort.ahead]
  ·rw [k1] at hh;cases hh
   refine ⟨Go.Sort.putCells (Value.int .i64) (g.base 1000) (xs.mergeSort fun x y=>decide (x≤y)).toArray cur,?_,by simp [Go.Sort.putCells],fun i x c hi hcx=>?_⟩
   ·rw [Go.Sort.heap_grow_old _ _ (by simpa [Go.Sort.ahead] using hblk)]
    simp [Go.Sort.putRow,Go.Sort.mapBlock,Array.getElem?_modify,Go.Sort.ahead,k1,Go.Sort.onCells]
   ·have hi':i<(xs.mergeSort fun x y=>decide (x≤y)).length:=by
     have:=(List.getElem?_eq_some_iff.1 hi).1
     simpa using this
    have hx:x=.int .i64 ((xs.mergeSort fun x y=>decide (x≤y))[i]):=by
     have:=(List.getElem?_eq_some_iff.1 hi).2
     simpa using this.symm
    subst hx
    simp [V.cells] at hcx
    subst hcx
    have hi2:i<xs.length:=by simpa using hi'
    have hlt:g.base 1000+i<cur.size:=by omega
    have hm:(xs.mergeSort fun x y=>decide (x≤y))[i]∈xs:=(List.mem_mergeSort).1 (List.getElem_mem hi')
    have:(Go.Sort.putCells (Value.int .i64) (g.base 1000) (xs.mergeSort fun x y=>decide (x≤y)).toArray cur).getD (g.base 1000+i) undef=.int .i64 ((xs.mergeSort fun x y=>decide (x≤y))[i]):=by
     rw [Array.getD_eq_getD_getElem?]
     simp [Go.Sort.putCells,Array.getElem?_mapIdx,hlt,hi',hi2]
    rw [this]
    exact .int _ _ (k5 _ hm)
theorem setCells_facts {b:Nat} {e:TypeId} {fz:Nat×Nat}:∀(vs:List Value) (o:Nat) (w:World) (cur:Array Value),w.heap[b]?=some (.cells cur e fz)→o+vs.length≤cur.size →
  (w.setCells b o vs).os=w.os∧(w.setCells b o vs).tape=w.tape∧(w.setCells b o vs).output=w.output∧(w.setCells b o vs).heap.size=w.heap.size∧(∀k,k≠b→(w.setCells b o vs).heap[k]?=w.heap[k]?) ∧
  ∃cur':Array Value,(w.setCells b o vs).heap[b]?=some (.cells cur' e fz)∧cur'.size=cur.size∧(∀j v,vs[j]?=some v→cur'[o+j]?=some v)∧∀j,j<o→cur'[j]?=cur[j]?
 | [],o,w,cur,h,_=>⟨rfl,rfl,rfl,rfl,fun _ _=>rfl,cur,h,rfl,fun j v hv=>by simp at hv,fun _ _=>rfl⟩
 | v::vs,o,w,cur,h,hl=>by
  have hl':o+(vs.length+1)≤cur.size:=by simpa using hl
  have h1:(w.setCell ⟨b,o,none⟩ v).heap[b]?=some (.cells (cur.setIfInBounds o v) e fz):=by
   rw [Go.Sort.setCell_eq]
   simp [Go.Sort.mapBlock,Array.getElem?_modify,h,Go.Sort.onCells]
  obtain ⟨k1,k2,k3,k4,k5,cur',k6,k7,k8,k9⟩:=setCells_facts vs (o+1) (w.setCell ⟨b,o,none⟩ v) _ h1 (by simp;omega)
  refine ⟨k1,k2,k3,k4.trans (by rw [Go.Sort.setCell_eq];simp [Go.Sort.mapBlock]),fun k hk=>(k5 k hk).trans (by rw [Go.Sort.setCell_eq];simp [Go.Sort.mapBlock,Array.getElem?_modify,Ne.symm hk]),cur',k6,by simpa using k7,fun j u hu=>?_,fun j hj=>?_⟩
  ·cases j with
   | zero =>
    simp at hu;subst hu
    rw [Nat.add_zero,k9 o (by omega)]
    have:o<cur.size:=by omega
    simp [this]
   | succ j =>
    have:=k8 j u (by simpa using hu)
    rw [←this];congr 1;omega
  ·rw [k9 j (by omega),Array.getElem?_setIfInBounds_ne (by omega)]
theorem acall_compactI {f:Nat} (hc:callable P f=true)
  (h1:∀(b off n c:Nat) (zs:List Int) (w:World),n≤zs.length→n≤9223372036854775807→n≤c→(∀j,j<zs.length→w.cell? ⟨b,off+j,none⟩=some (.int .i64 (zs.getD j 0)))→(∀j,j<n→w.frozen? ⟨b,off+j,none⟩=false) →
   Calls P f #[.slice (some ⟨b,off,none⟩) n c] w fun e w'=>e=.returned (.slice (some ⟨b,off,none⟩) (Go.Lib.compact (zs.take n)).length c)∧∃q,w'=(w.drewN q).setCells b off ((Go.Lib.compact (zs.take n)++List.replicate (n - (Go.Lib.compact (zs.take n)).length) 0).map (Value.int .i64)))
  (h2:∀(p:Option Addr) (cap:Nat) (w:World),Calls P f #[.slice p 0 cap] w fun e w'=>e=.returned (.slice p 0 cap)∧w'=w) (xs:List Int)
  (hle:(Go.Lib.compact xs).length≤xs.length) (hmem:∀x∈Go.Lib.compact xs,x∈xs) :
  ACall P f [.osl 1000 1 0 xs.length] [(1000,.arr 1 (xs.map (V.int .i64)))] (fun r H'=>r=.osl 1000 1 0 (Go.Lib.compact xs).length ∧
   H'=[(1000,.arr 1 ((Go.Lib.compact xs++List.replicate (xs.length - (Go.Lib.compact xs).length) 0).map (V.int .i64)))]):=by
 refine acall_row hc ints_elem (by simp;omega) fun g w vals hH hsz hv=>?_
 have hf:find 1000 [(1000,Obj'.arr 1 (xs.map (V.int .i64)))]=some (.arr 1 (xs.map (V.int .i64))):=by simp [find]
 have hO:=hH.obj 1000 _ hf
 have hv0:=hv 0 _ rfl
 have hval:vals=#[vals.getD 0 undef]:=by
  have:vals.size=1:=hsz
  apply Array.ext
  ·simp [this]
  ·intro i h1 h2
   have:i=0:=by omega
   subst this
   simp only [List.getElem_toArray,List.getElem_cons_zero]
   rw [Array.getD_eq_getD_getElem?,Array.getElem?_eq_getElem h1,Option.getD_some]
 rw [hval]
 by_cases h0:xs=[]
 ·subst h0
  have hc0:Go.Lib.compact ([]:List Int)=[]:=List.length_eq_zero_iff.1 (by simpa using hle)
  have:∃p cap,vals.getD 0 undef=.slice p 0 cap:=by
   rcases hv0.osl_inv with ⟨_,e,_⟩|⟨_,o,c,e,_⟩
   ·exact ⟨none,0,e⟩
   ·exact ⟨_,c,e⟩
  obtain ⟨p,cap,e⟩:=this
  have hv0':=hv0
  rw [e] at hv0'
  rw [e]
  refine (h2 p cap w).mono ?_
  rintro en w' ⟨rfl,rfl⟩
  refine ⟨_,rfl,by rw [hc0];exact hv0',rfl,rfl,rfl,Nat.le_refl _,fun _ _ _=>rfl,fun _=>by simp [hc0],fun hn cur e fz hh=>⟨cur,hh,rfl,fun i x c hi=>by simp [hc0] at hi⟩⟩
 ·have hlen:0<xs.length:=List.length_pos_iff.2 h0
  rcases hv0.osl_inv with ⟨_,_,e⟩|⟨hn,o,cc,ev,ho,hcap,hlc,hmx⟩
  ·omega
  have ho':o=g.base 1000:=by
   rcases ho with h|h
   ·omega
   ·simpa using h
  subst ho'
  rw [ev]
  obtain ⟨cur,e,fz,k1,k2,k3,k4,k5⟩:=row_ints hO hn
  refine (h1 _ _ xs.length cc xs w (Nat.le_refl _) (by unfold maxLen at hmx;omega) hlc (fun j hj=>?_) (fun j hj=>?_)).mono ?_
  ·simp only [World.cell?,k1]
   exact k4 j hj
  ·simp only [World.frozen?,k1]
   exact k3.at (by omega)
  rintro en w' ⟨rfl,q,rfl⟩
  rw [List.take_length]
  obtain ⟨q1,q2,q3,q4,q5,cur',q6,q7,q8,_⟩:=setCells_facts (b:=g.ρ 1000) ((Go.Lib.compact xs++List.replicate (xs.length - (Go.Lib.compact xs).length) 0).map (Value.int .i64)) (g.base 1000) (w.drewN q) cur (by exact k1) (by simp;omega)
  refine ⟨_,rfl,.osl 1000 1 0 _ _ cc hn (.inr (by simp)) hcap (by omega) hmx,q1,q2,q3,Nat.le_of_eq q4.symm,fun b hb hne=>q5 b (hne.resolve_right hn),fun h=>absurd h hn,fun _ cur0 e0 fz0 hh=>?_⟩
  rw [k1] at hh;cases hh
  refine ⟨cur',q6,q7,fun i x c hi hcx=>?_⟩
  rw [List.getElem?_map] at hi
  cases hz:(Go.Lib.compact xs++List.replicate (xs.length - (Go.Lib.compact xs).length) 0)[i]? with
  | none=>rw [hz] at hi;cases hi
  | some z =>
   rw [hz] at hi;cases hi
   simp [V.cells] at hcx
   subst hcx
   have:=q8 i (.int .i64 z) (by rw [List.getElem?_map,hz];rfl)
   rw [Array.getD_eq_getD_getElem?,this]
   refine .int _ _ ?_
   rcases List.mem_append.1 (List.mem_of_getElem? hz) with h|h
   ·exact k5 z (hmem z h)
   ·rw [(List.mem_replicate.1 h).2];simp [inR,IntKind.min,IntKind.max,IntKind.signed,IntKind.bits]
theorem compact_le (xs:List Int):(Go.Lib.compact xs).length≤xs.length:=by
 simp only [Go.Lib.compact,Go.Lib.compactUpTo,List.length_map]
 exact Nat.le_trans (List.length_filter_le _ _) (by simp)
theorem compact_mem (xs:List Int):∀x∈Go.Lib.compact xs,x∈xs:=by
 intro x hx
 simp only [Go.Lib.compact,Go.Lib.compactUpTo,List.mem_map,List.mem_filter,List.mem_range] at hx
 obtain ⟨i,⟨hi,_⟩,rfl⟩:=hx
 simp [hi]
def sortI (xs:List Int):Option (List Int):=if xs.length<4611686018427387904 then some (xs.mergeSort fun x y=>decide (x≤y)) else none
def compactI (xs:List Int):Option (Nat×List Int):=some ((Go.Lib.compact xs).length,Go.Lib.compact xs++List.replicate (xs.length - (Go.Lib.compact xs).length) 0)
theorem acall_sortI' {f:Nat} (hc:callable P f=true)
  (h1:∀(blk off cap:Nat) (zs:List Int) (w:World),Go.Sort.Holds (Value.int .i64) w blk off zs.toArray→blk<w.heap.size→zs.length<4611686018427387904 →
   Calls P f #[.slice (some ⟨blk,off,none⟩) zs.length cap] w fun e w'=>e=.returned (.tuple #[])∧∃n os,w'=Go.Sort.grow (Go.Sort.putRow (Value.int .i64) (Go.Sort.ahead w n) blk off (zs.mergeSort fun x y=>decide (x≤y)).toArray) os)
  (h2:∀(p:Option Addr) (cap:Nat) (w:World),Calls P f #[.slice p 0 cap] w fun e w'=>e=.returned (.tuple #[])∧w'=w) {xs ys:List Int} (hy:sortI xs=some ys) :
  ACall P f [.osl 1000 1 0 xs.length] [(1000,.arr 1 (xs.map (V.int .i64)))] (fun r H'=>r=.tup []∧H'=[(1000,.arr 1 (ys.map (V.int .i64)))]):=by
 unfold sortI at hy
 split at hy
 ·cases hy;exact acall_sortI hc h1 h2 xs (by assumption)
 ·cases hy
theorem acall_compactI' {f:Nat} (hc:callable P f=true)
  (h1:∀(b off n c:Nat) (zs:List Int) (w:World),n≤zs.length→n≤9223372036854775807→n≤c→(∀j,j<zs.length→w.cell? ⟨b,off+j,none⟩=some (.int .i64 (zs.getD j 0)))→(∀j,j<n→w.frozen? ⟨b,off+j,none⟩=false) →
   Calls P f #[.slice (some ⟨b,off,none⟩) n c] w fun e w'=>e=.returned (.slice (some ⟨b,off,none⟩) (Go.Lib.compact (zs.take n)).length c)∧∃q,w'=(w.drewN q).setCells b off ((Go.Lib.compact (zs.take n)++List.replicate (n - (Go.Lib.compact (zs.take n)).length) 0).map (Value.int .i64)))
  (h2:∀(p:Option Addr) (cap:Nat) (w:World),Calls P f #[.slice p 0 cap] w fun e w'=>e=.returned (.slice p 0 cap)∧w'=w) {xs:List Int} {y:Nat×List Int} (hy:compactI xs=some y) :
  ACall P f [.osl 1000 1 0 xs.length] [(1000,.arr 1 (xs.map (V.int .i64)))] (fun r H'=>r=.osl 1000 1 0 y.1∧H'=[(1000,.arr 1 (y.2.map (V.int .i64)))]):=by
 cases hy
 exact acall_compactI hc h1 h2 xs (compact_le xs) (compact_mem xs)
theorem sortI_len {xs ys:List Int} (hy:sortI xs=some ys):ys.length=xs.length:=by
 unfold sortI at hy
 split at hy
 ·cases hy;simp
 ·cases hy
theorem compactI_len {xs:List Int} {y:Nat×List Int} (hy:compactI xs=some y):y.1≤y.2.length∧y.2.length=xs.length:=by
 cases hy
 have:=compact_le xs
 simp
 omega
end
end Go.Ab
