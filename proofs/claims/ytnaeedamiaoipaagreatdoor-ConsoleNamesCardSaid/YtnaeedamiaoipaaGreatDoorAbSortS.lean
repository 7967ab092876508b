/- The abstract layer: rows of texts that the library sorts and compacts in place. -/
import Derived.Test.YtnaeedamiaoipaaGreatDoorAbSort
import Derived.Shelf.Slices.CompactS
set_option linter.all false
set_option linter.all false
namespace Go.Ab
open Go.RowKit Go.Proofs Go.Sort
section
variable {P:Program}
theorem strs_elem {zs:List Str}:∀x∈zs.map V.str,x.cells.length=1∧(∀c∈x.cells,c.one=true)∧x.sealed=true:=by
 intro x hx
 obtain ⟨z,_,rfl⟩:=List.mem_map.1 hx
 exact ⟨rfl,fun c hc=>by simp [V.cells] at hc;subst hc;rfl,rfl⟩
theorem row_strs {g:Gh} {w:World} {xs:List Str} (hO:OR g w 1000 (.arr 1 (xs.map V.str))) (hn:¬g.nil 1000) :
  ∃(cur:Array Value) (e:TypeId) (fz:Nat×Nat),w.heap[g.ρ 1000]?=some (.cells cur e fz)∧g.base 1000+xs.length≤cur.size∧unfrozen fz cur.size∧(∀j,j<xs.length→cur[g.base 1000+j]?=some (encStr (xs.getD j [])))∧∀x∈xs,x.length≤maxLen:=by
 rcases hO with ⟨h,_⟩|⟨_,ha⟩
 ·exact absurd h hn
 obtain ⟨cur,e,fz,k1,k2,k3,k4⟩:=ha.row
 have hlen:g.base 1000+xs.length≤cur.size:=by
  have:=ha.len
  simp at this
  rw [k2];omega
 have hrd:∀j,(hj:j<xs.length)→cur.getD (g.base 1000+j) undef=encStr xs[j]∧(xs[j]).length≤maxLen:=fun j hj=>by
  have:=k4 j 0 (.str xs[j]) (.str xs[j]) (by simp [hj]) rfl
  have h2:Rd g.S w (cur.getD (g.base 1000+j) undef) (.str xs[j]):=by simpa using this
  obtain ⟨q,e1,e2,e3⟩:=(VR.rd (g:=g) h2).str_inv
  have hq:q=⟨(xs[j]).toArray⟩:=by
   apply ByteArray.ext
   apply Array.toList_inj.1
   rw [e2]
  refine ⟨by rw [e1,hq],?_⟩
  rw [←e2,Array.length_toList];exact e3
 refine ⟨cur,e,fz,k1,hlen,k3.1,fun j hj=>?_,fun x hx=>?_⟩
 ·have:=(hrd j hj).1
  have hlt:g.base 1000+j<cur.size:=by omega
  rw [Array.getD_eq_getD_getElem?,Array.getElem?_eq_getElem hlt] at this
  rw [Array.getElem?_eq_getElem hlt]
  simp at this
  simp [this,List.getD_eq_getElem?_getD,List.getElem?_eq_getElem hj]
 ·obtain ⟨j,hj,rfl⟩:=List.getElem_of_mem hx
  exact (hrd j hj).2
theorem acall_rowStr {f:Nat} (hc:callable P f=true) {xs ys:List Str} {r:V} (hyl:ys.length=xs.length) (hym:∀x∈ys,x∈xs∨x=[])
  (R:Option Addr→Nat→Value)
  (h1:∀(blk off cap:Nat) (w:World),Holds encStr w blk off xs.toArray→blk<w.heap.size→xs.length≤cap →
   Calls P f #[.slice (some ⟨blk,off,none⟩) xs.length cap] w fun e w'=>e=.returned (R (some ⟨blk,off,none⟩) cap)∧∃n os,w'=grow (putRow encStr (Go.Sort.ahead w n) blk off ys.toArray) os)
  (h2:xs=[]→∀(p:Option Addr) (cap:Nat) (w:World),Calls P f #[.slice p 0 cap] w fun e w'=>e=.returned (R p cap)∧w'=w)
  (hr:∀(g:Gh) (w':World) (p:Option Addr) (cap:Nat),(∀{k:Nat},k≤xs.length→VR g w' (.slice p k cap) (.osl 1000 1 0 k))→VR g w' (R p cap) r) :
  ACall P f [.osl 1000 1 0 xs.length] [(1000,.arr 1 (xs.map V.str))] (fun r' H'=>r'=r∧H'=[(1000,.arr 1 (ys.map V.str))]):=by
 refine acall_row hc strs_elem (by simp [hyl]) fun g w vals hH hsz hv=>?_
 have hf:find 1000 [(1000,Obj'.arr 1 (xs.map V.str))]=some (.arr 1 (xs.map V.str)):=by simp [find]
 have hO:=hH.obj 1000 _ hf
 have hv0:=hv 0 _ rfl
 have hval:vals=#[vals.getD 0 undef]:=by
  have:vals.size=1:=hsz
  apply Array.ext
  ·simp [this]
  ·intro i h1 h2
   have:i=0:=by omega
   subst this
   simp only [List.getElem_toArray,List.getElem_cons_zero]
   rw [Array.getD_eq_getD_getElem?,Array.getElem?_eq_getElem h1,Option.getD_some]
 rw [hval]
 by_cases h0:xs=[]
 ·have hy0:ys=[]:=List.length_eq_zero_iff.1 (by rw [hyl,h0];rfl)
  have hh2:=h2 h0
  subst h0
  have:∃p cap,vals.getD 0 undef=.slice p 0 cap:=by
   rcases hv0.osl_inv with ⟨_,e,_⟩|⟨_,o,c,e,_⟩
   ·exact ⟨none,0,e⟩
   ·exact ⟨_,c,e⟩
  obtain ⟨p,cap,e⟩:=this
  rw [e]
  rw [e] at hv0
  refine (hh2 p cap w).mono ?_
  rintro en w' ⟨rfl,rfl⟩
  refine ⟨_,rfl,hr g _ p cap fun {k} hk=>?_,rfl,rfl,rfl,Nat.le_refl _,fun _ _ _=>rfl,fun _=>by simp [hy0],fun hn cur e fz hh=>⟨cur,hh,rfl,fun i x c hi=>by simp [hy0] at hi⟩⟩
  have:k=0:=by simpa using hk
  subst this;exact hv0
 ·have hlen:0<xs.length:=List.length_pos_iff.2 h0
  rcases hv0.osl_inv with ⟨_,_,e⟩|⟨hn,o,cc,ev,ho,hcap,hlc,hmx⟩
  ·omega
  have ho':o=g.base 1000:=by
   rcases ho with h|h
   ·omega
   ·simpa using h
  subst ho'
  rw [ev]
  obtain ⟨cur,e,fz,k1,k2,k3,k4,k5⟩:=row_strs hO hn
  have hHo:Holds encStr w (g.ρ 1000) (g.base 1000) xs.toArray:=fun j hj=>by
   have hj':j<xs.length:=by simpa using hj
   refine ⟨?_,?_⟩
   ·simp only [World.cell?,k1]
    rw [k4 j hj']
    simp [hj']
   ·simp only [World.frozen?,k1]
    exact k3.at (by omega)
  refine (h1 _ _ cc w hHo (hO.block hn) hlc).mono ?_
  rintro en w' ⟨rfl,n,os,rfl⟩
  have hblk:=hO.block hn
  refine ⟨_,rfl,hr g _ _ cc fun {k} hk=>.osl 1000 1 0 k _ cc hn (.inr (by simp)) hcap (by omega) hmx,rfl,rfl,rfl,by simp [Go.Sort.grow,Go.Sort.ahead],fun b hb hne=>?_,fun h=>absurd h hn,fun _ cur0 e0 fz0 hh=>?_⟩
  ·have hne':b≠g.ρ 1000:=hne.resolve_right hn
   rw [Go.Sort.heap_grow_old _ _ (by simpa [Go.Sort.ahead] using hb)]
   simp [Go.Sort.putRow,Go.Sort.mapBlock,Array.getElem?_modify,hne'.symm,Go.Sort.ahead]
  ·rw [k1] at hh;cases hh
   refine ⟨Go.Sort.putCells encStr (g.base 1000) ys.toArray cur,?_,by simp [Go.Sort.putCells],fun i x c hi hcx=>?_⟩
   ·rw [Go.Sort.heap_grow_old _ _ (by simpa [Go.Sort.ahead] using hblk)]
    simp [Go.Sort.putRow,Go.Sort.mapBlock,Array.getElem?_modify,Go.Sort.ahead,k1,Go.Sort.onCells]
   ·have hi':i<ys.length:=by
     have:=(List.getElem?_eq_some_iff.1 hi).1
     simpa using this
    have hx:x=.str (ys[i]):=by
     have:=(List.getElem?_eq_some_iff.1 hi).2
     simpa using this.symm
    subst hx
    simp [V.cells] at hcx
    subst hcx
    have hi2:i<xs.length:=by omega
    have hlt:g.base 1000+i<cur.size:=by omega
    have:(Go.Sort.putCells encStr (g.base 1000) ys.toArray cur).getD (g.base 1000+i) undef=encStr (ys[i]):=by
     rw [Array.getD_eq_getD_getElem?]
     simp [Go.Sort.putCells,Array.getElem?_mapIdx,hlt,hi']
    rw [this]
    have hl:(ys[i]).length≤maxLen:=by
     rcases hym _ (List.getElem_mem hi') with h|h
     ·exact k5 _ h
     ·rw [h];exact Nat.zero_le _
    have:=Rd.str (S:=g.S) (w:=grow (putRow encStr (Go.Sort.ahead w n) (g.ρ 1000) (g.base 1000) ys.toArray) os) ⟨(ys[i]).toArray⟩ (by simpa [ByteArray.size] using hl)
    simpa [encStr] using this
def sortS (xs:List Str):Option (List Str):=chk (decide (xs.length<4611686018427387904)) (some (xs.mergeSort fun x y=>decide (x≤y)))
def compactS (xs:List Str):Option (Nat×List Str):=chk (decide (xs.length<4611686018427387904)) (some ((Go.Lib.compact xs).length,Go.Lib.compact xs++List.replicate (xs.length - (Go.Lib.compact xs).length) []))
theorem compactS_inv {xs:List Str} {y:Nat×List Str} (hy:compactS xs=some y):xs.length<4611686018427387904∧y=((Go.Lib.compact xs).length,Go.Lib.compact xs++List.replicate (xs.length - (Go.Lib.compact xs).length) []):=by
 unfold compactS chk at hy
 cases hd:decide (xs.length<4611686018427387904) with
 | false=>rw [hd] at hy;cases hy
 | true=>rw [hd] at hy;exact ⟨of_decide_eq_true hd,(Option.some.inj hy).symm⟩
theorem compactS_le (xs:List Str):(Go.Lib.compact xs).length≤xs.length:=by
 simp only [Go.Lib.compact,Go.Lib.compactUpTo,List.length_map]
 exact Nat.le_trans (List.length_filter_le _ _) (by simp)
theorem compactS_mem (xs:List Str):∀x∈Go.Lib.compact xs,x∈xs:=by
 intro x hx
 simp only [Go.Lib.compact,Go.Lib.compactUpTo,List.mem_map,List.mem_filter,List.mem_range] at hx
 obtain ⟨i,⟨hi,_⟩,rfl⟩:=hx
 simp [hi]
theorem acall_sortS {f:Nat} (hc:callable P f=true)
  (h1:∀(blk off cap:Nat) (zs:List (List UInt8)) (w:World),Holds encStr w blk off zs.toArray→blk<w.heap.size→zs.length<4611686018427387904 →
   Calls P f #[.slice (some ⟨blk,off,none⟩) zs.length cap] w fun e w'=>e=.returned (.tuple #[])∧∃n os,w'=grow (putRow encStr (Go.Sort.ahead w n) blk off (zs.mergeSort fun x y=>decide (x≤y)).toArray) os)
  (h2:∀(p:Option Addr) (cap:Nat) (w:World),Calls P f #[.slice p 0 cap] w fun e w'=>e=.returned (.tuple #[])∧w'=w) {xs ys:List Str} (hy:sortS xs=some ys) :
  ACall P f [.osl 1000 1 0 xs.length] [(1000,.arr 1 (xs.map V.str))] (fun r H'=>r=.tup []∧H'=[(1000,.arr 1 (ys.map V.str))]):=by
 unfold sortS chk at hy
 cases hd:decide (xs.length<4611686018427387904) with
 | false=>rw [hd] at hy;cases hy
 | true =>
  rw [hd] at hy
  obtain rfl:=Option.some.inj hy
  exact acall_rowStr hc (by simp) (fun x hx=>.inl ((List.mem_mergeSort).1 hx)) (fun _ _=>.tuple #[]) (fun blk off cap w a b _=>h1 blk off cap xs w a b (of_decide_eq_true hd)) (fun _ p cap w=>h2 p cap w)
   fun g w' p cap _=>.tup _ _ rfl fun i x hx=>by simp at hx
theorem acall_compactS {f:Nat} (hc:callable P f=true)
  (h1:∀(blk off cap:Nat) (zs:List (List UInt8)) (w:World),Holds encStr w blk off zs.toArray→zs.length≤9223372036854775807→zs.length≤cap →
   Calls P f #[.slice (some ⟨blk,off,none⟩) zs.length cap] w fun e w'=>e=.returned (.slice (some ⟨blk,off,none⟩) (Go.Lib.compact zs).length cap)∧∃q,w'=putRow encStr (Go.Sort.ahead w q) blk off (Go.Lib.compact zs++List.replicate (zs.length - (Go.Lib.compact zs).length) []).toArray)
  (h2:∀(p:Option Addr) (cap:Nat) (w:World),Calls P f #[.slice p 0 cap] w fun e w'=>e=.returned (.slice p 0 cap)∧w'=w) {xs:List Str} {y:Nat×List Str} (hy:compactS xs=some y) :
  ACall P f [.osl 1000 1 0 xs.length] [(1000,.arr 1 (xs.map V.str))] (fun r H'=>r=.osl 1000 1 0 y.1∧H'=[(1000,.arr 1 (y.2.map V.str))]):=by
 obtain ⟨hb,rfl⟩:=compactS_inv hy
 have hle:=compactS_le xs
 refine acall_rowStr hc (by simp;omega) (fun x hx=>?_) (fun p cap=>.slice p (Go.Lib.compact xs).length cap) (fun blk off cap w a _ c=>(h1 blk off cap xs w a (by omega) c).mono fun e w' ⟨e1,q,e2⟩=>⟨e1,q,#[],by rw [e2];exact (Go.Sort.grow_empty _).symm⟩) (fun h p cap w=>?_) fun g w' p cap h=>h hle
 ·rcases List.mem_append.1 hx with h|h
  ·exact .inl (compactS_mem xs x h)
  ·exact .inr (List.mem_replicate.1 h).2
 ·have hc0:Go.Lib.compact xs=[]:=List.length_eq_zero_iff.1 (by rw [h] at hle;simpa [h] using hle)
  rw [hc0];exact h2 p cap w
theorem sortS_len {xs ys:List Str} (hy:sortS xs=some ys):ys.length=xs.length:=by
 unfold sortS chk at hy
 cases hd:decide (xs.length<4611686018427387904) with
 | false=>rw [hd] at hy;cases hy
 | true =>
  rw [hd] at hy
  obtain rfl:=Option.some.inj hy
  simp
theorem compactS_len {xs:List Str} {y:Nat×List Str} (hy:compactS xs=some y):y.1≤y.2.length∧y.2.length=xs.length:=by
 obtain ⟨_,rfl⟩:=compactS_inv hy
 have:=compactS_le xs
 simp
 omega
end
end Go.Ab
