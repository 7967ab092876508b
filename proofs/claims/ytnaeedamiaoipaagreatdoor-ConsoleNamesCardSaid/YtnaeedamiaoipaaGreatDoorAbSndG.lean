/- The abstract layer, part 11: bytes to strings, append, calls. -/
import Derived.Test.YtnaeedamiaoipaaGreatDoorAbSndF
set_option linter.all false
namespace Go.Ab
open Go.RowKit
section
variable {P:Program} {o:Oper} {c:Ctx} {g:Gh} {σ:St} {a:Act} {w:World} {ob:Nat→Option Obj'} {K L:Eff→Prop} {K':Act→World→Prop} {Q':Exit→Act→World→Prop}
theorem run_row {w:World} {b o' n:Nat} {cur:Array Value} {e:TypeId} {fz:Nat×Nat} (hb:w.heap[b]?=some (.cells cur e fz)) (h:o'+n≤cur.size) :
  (loadCells ⟨b,o',none⟩ n).run P w=.ok ((cur.toList.drop o').take n).toArray w:=by
 have hl:((cur.toList.drop o').take n).length=n:=by simp;omega
 have:=run_loadCells_list (P:=P) w ⟨b,o',none⟩ ((cur.toList.drop o').take n) (fun j v hv=>by
  rw [show (⟨b,o',none⟩:Addr).add j=⟨b,o'+j,none⟩ from Addr.add_lit _ _ _,cell_of_row w b _ cur e fz hb]
  rw [List.getElem?_take] at hv
  split at hv
  ·simpa using hv
  ·cases hv)
 rwa [hl] at this
theorem row_get {cur:Array Value} {o' n j:Nat} (hj:j<n) (h:o'+n≤cur.size):((cur.toList.drop o').take n)[j]?=some (cur.getD (o'+j) undef):=by
 rw [List.getElem?_take,if_pos hj,List.getElem?_drop,Array.getElem?_toList]
 have:o'+j<cur.size:=by omega
 simp [Array.getD_eq_getD_getElem?,this]
structure Src (P:Program) (S:Nat→Prop) (w:World) (k:Nat) (v:Value) (ys:List V) (news:List Value):Prop where
 len:news.length=ys.length*k
 lenOf:(Builtin.lenOf v).run P w=.ok ys.length w
 first:(Builtin.firstCells k ys.length v).run P w=.ok news.toArray w
 one:∀u∈news,u.oneCell'=true
 rd:∀(i j:Nat) (x y:V),ys[i]?=some x→x.cells[j]?=some y→Rd S w (news.getD (i*k+j) undef) y
 elem:∀x∈ys,x.cells.length=k∧(∀c∈x.cells,c.one=true)∧x.sealed=true
 big:ys.length≤maxLen
theorem src_row {w:World} {S:Nat→Prop} {b o' k len cap:Nat} {cur:Array Value} {e:TypeId} {fz:Nat×Nat} {ys:List V} (hb:w.heap[b]?=some (.cells cur e fz)) (hl:ys.length=len) (h:len=0∨o'+len*k≤cur.size)
  (hrd:∀(i j:Nat) (x y:V),ys[i]?=some x→x.cells[j]?=some y→Rd S w (cur.getD (o'+i*k+j) undef) y) (hel:∀x∈ys,x.cells.length=k∧(∀c∈x.cells,c.one=true)∧x.sealed=true) (hm:len≤maxLen) :
  ∃news,Src P S w k (.slice (some ⟨b,o',none⟩) len cap) ys news:=by
 subst hl
 by_cases h0:ys.length=0
 ·have hnil:ys=[]:=List.eq_nil_of_length_eq_zero h0
  subst hnil
  refine ⟨[],by simp,rfl,?_,by simp,by simp,by simp,by simp⟩
  simp [Builtin.firstCells,loadCells,loadCellsFrom]
 ·have h:o'+ys.length*k≤cur.size:=h.resolve_left h0
  refine ⟨(cur.toList.drop o').take (ys.length*k),by simp;omega,rfl,run_row hb h,?_,?_,hel,hm⟩
  ·intro u hu
   obtain ⟨j,hj,rfl⟩:=List.mem_iff_getElem.1 hu
   have hj':j<ys.length*k:=by simp at hj;omega
   have hkp:0<k:=by rcases Nat.eq_zero_or_pos k with h|h<;>simp_all
   have e1:=row_get (cur:=cur) hj' h
   rw [List.getElem?_eq_getElem hj] at e1
   have e3:=Option.some.inj e1
   have hi:j / k<ys.length:=Nat.div_lt_of_lt_mul (by rw [Nat.mul_comm];exact hj')
   have hx:=hel _ (List.getElem_mem hi)
   have hm':j % k<ys[j / k].cells.length:=by rw [hx.1];exact Nat.mod_lt _ hkp
   have:=hrd (j / k) (j % k) _ _ (List.getElem?_eq_getElem hi) (List.getElem?_eq_getElem hm')
   have e2:o'+j / k*k+j % k=o'+j:=by
    have:=Nat.div_add_mod j k
    rw [Nat.mul_comm] at this;omega
   rw [e2] at this
   rw [e3]
   exact (VR.rd (g:=⟨S,id,id,id,fun _=>False⟩) this).one_cell (hx.2.1 _ (List.getElem_mem hm'))
  ·intro i j x y hi hj
   have hlt:i<ys.length:=(List.getElem?_eq_some_iff.1 hi).1
   have hjk:j<k:=by rw [←(hel x (List.mem_of_getElem? hi)).1];exact (List.getElem?_eq_some_iff.1 hj).1
   have hij:i*k+j<ys.length*k:=by
    have:(i+1)*k≤ys.length*k:=Nat.mul_le_mul_right _ hlt
    rw [Nat.add_mul,Nat.one_mul] at this;omega
   have e1:=row_get (cur:=cur) hij h
   have e2:((cur.toList.drop o').take (ys.length*k)).getD (i*k+j) undef=cur.getD (o'+(i*k+j)) undef:=by
    rw [List.getD_eq_getElem?_getD,e1];rfl
   rw [e2,←Nat.add_assoc]
   exact hrd i j x y hi hj
theorem src_none {w:World} {S:Nat→Prop} {k:Nat}:Src P S w k (.slice none 0 0) [] [] :=
 ⟨by simp,rfl,by simp [Builtin.firstCells],by simp,by simp,by simp,by simp⟩
theorem app_src (hR:Rel P c g σ a w) (hob:∀id o,ob id=some o→find id σ.heap=some o) {k:Nat} {v:Value} {y:V} {ys:List V} (hv:VR g w v y) (h:appSrc k y ob=some ys) (hvl:vlen y≤ys.length) (hk:∀x∈ys,x.cells.length=k):∃news,Src P g.S w k v ys news:=by
 unfold appSrc at h
 split at h
 ·cases h
  rw [hv.nils_inv]
  exact ⟨[],src_none⟩
 ·rename_i zs
  cases h
  have hrd:=hv.sl_inv
  cases hrd with
  | nilsl=>exact ⟨[],src_none⟩
  | slz a0 cap0=>exact ⟨[],by simp,rfl,by simp [Builtin.firstCells,loadCells,loadCellsFrom],by simp,by simp,by simp,by simp⟩
  | sl b o' len cap k' cur e fz _ hS hg hl hm hc hb hkk hr =>
   by_cases h0:ys.length=0
   ·have hnil:ys=[]:=List.eq_nil_of_length_eq_zero h0
    subst hnil
    exact src_row hg hl (.inl (by simpa using hl.symm)) (fun i j x y hx _=>by simp at hx) (fun x hx=>by simp at hx) hm
   ·obtain ⟨x,hx⟩:∃x,x∈ys:=List.exists_mem_of_length_pos (by omega)
    have:k'=k:=by rw [←(hkk x hx).1];exact hk x hx
    subst this
    exact src_row hg hl hb hr hkk hm
 ·rename_i id k' lo n
  split at h
  ·rename_i k'' xs t0 hobj
   by_cases hb:(Nat.beq k k'&&Nat.beq k k'')=true
   case neg=>simp [hb] at h
   simp only [hb,cond_true,Option.some.injEq] at h
   simp only [Bool.and_eq_true] at hb
   have e1:=Nat.eq_of_beq_eq_true hb.1;subst e1
   have e2:=Nat.eq_of_beq_eq_true hb.2;subst e2
   rcases hv.osl_inv with ⟨hnil,rfl,rfl⟩|⟨hnn,o',cc,rfl,ho',hcap,hlc,hm⟩
   ·have:ys=[]:=by rw [←h];simp
    subst this
    exact ⟨[],src_none⟩
   ·rcases hR.hp.obj _ _ (hob _ _ hobj) with ⟨hnil,_⟩|⟨_,ha⟩
    ·exact absurd hnil hnn
    ·obtain ⟨hkp,⟨cur,e,fz,h1,h2,h3,h4⟩,h5,h6,h7⟩:=ha
     have hget:∀(i:Nat) (x:V),ys[i]?=some x→xs[lo+i]?=some x∧i<n:=by
      intro i x hi
      rw [←h,List.getElem?_take] at hi
      split at hi
      ·rename_i hlt
       rw [List.getElem?_drop] at hi;exact ⟨hi,hlt⟩
      ·cases hi
     have hel:∀x∈ys,x.cells.length=k∧(∀c∈x.cells,c.one=true)∧x.sealed=true:=by
      intro x hx
      obtain ⟨i,hi,rfl⟩:=List.mem_iff_getElem.1 hx
      exact h7 _ (List.mem_of_getElem? (hget i _ (List.getElem?_eq_getElem hi)).1)
     have hlen:ys.length=n:=by
      have h8:ys.length≤n:=by rw [←h];simp;omega
      simp only [vlen] at hvl
      omega
     ·by_cases hn0:n=0
      ·have hnil:ys=[]:=List.eq_nil_of_length_eq_zero (by omega)
       subst hnil
       exact src_row h1 hlen (.inl hn0) (fun i j x y hx _=>by simp at hx) (fun x hx=>by simp at hx) (by omega)
      ·have hoo:o'=(g.base id+lo)*k:=by
        rcases ho' with h|h
        ·omega
        ·exact h
       refine src_row h1 hlen (.inr ?_) (fun i j x y hx hy=>?_) hel (by omega)
       ·rw [hoo,←Nat.add_mul,h2];exact Nat.mul_le_mul_right _ (by omega)
       ·have:=h4 (lo+i) j x y (hget i x hx).1 hy
        rw [hoo,←Nat.add_mul,Nat.add_assoc];exact this
  ·cases h
 ·rename_i s
  by_cases hb:Nat.beq k 1=true
  case neg=>simp [hb] at h
  simp only [hb,cond_true,Option.some.injEq] at h
  have e1:=Nat.eq_of_beq_eq_true hb;subst e1;subst h
  obtain ⟨b,rfl,hb',hm⟩:=hv.str_inv
  have hsz:b.size=s.length:=by rw [←hb',Array.length_toList];rfl
  refine ⟨s.map fun c=>.int .u8 c.toNat,by simp,?_,?_,fun u hu=>?_,fun i j x y hi hj=>?_,byteV_ok s,by simp;omega⟩
  ·simp [Builtin.lenOf,hsz]
  ·simp only [Builtin.firstCells,Sem.run_pure]
   congr 1
   apply Array.toList_inj.1
   simp only [List.length_map,Array.toList_map]
   have:(b.extract 0 s.length).data.toList=s:=by
    obtain ⟨⟨l⟩⟩:=b
    rw [ByteArray.extract_mk]
    simp only at hb' ⊢
    rw [List.drop_zero,Nat.sub_zero,hb'];exact List.take_length
   rw [this]
  ·obtain ⟨b',_,rfl⟩:=List.mem_map.1 hu;rfl
  ·rw [List.getElem?_map] at hi
   cases hsi:s[i]? with
   | none=>rw [hsi] at hi;cases hi
   | some b' =>
    rw [hsi] at hi;simp at hi;subst hi
    cases j with
    | succ j=>simp [byteV,V.cells] at hj
    | zero =>
     simp [byteV,V.cells] at hj;subst hj
     have:(s.map fun c=>Value.int .u8 c.toNat).getD (i*1+0) undef=.int .u8 b'.toNat:=by
      simp [List.getD_eq_getElem?_getD,hsi]
     rw [this]
     exact byte_rd b'
 ·cases h
def AppT (P:Program) (t':TypeId):Prop:=P.underlying t'=some .string∨∃e',P.underlying t'=some (.slice e')
theorem run_app_room {t t' ty e:TypeId} {i:TypeInfo} (hu:P.underlying t=some (.slice e)) (hu':AppT P t') (hi:P.info? e=some i)
  {ad:Addr} {n cap m:Nat} {y:Value} {news:List Value} (hy:(Builtin.lenOf y).run P w=.ok m w) (hf:(Builtin.firstCells i.size m y).run P w=.ok news.toArray w) (h:n+m≤cap) {w':World}
  (hst:(storeCells (ad.add (n*i.size)) news).run P w=.ok () w') :
  (Builtin.append_ #[t,t'] ty #[.slice (some ad) n cap,y]).run P w=.ok (.slice (some ad) (n+m) cap) w':=by
 rcases hu' with hu'|⟨e',hu'⟩ <;>
  simp [Builtin.append_,run_underlying hu,run_underlying hu',Go.sizeOf,typeInfo,hi,hy,hf,h,hst]
theorem run_app_none {t t' ty e:TypeId} {i:TypeInfo} (hu:P.underlying t=some (.slice e)) (hu':AppT P t') (hi:P.info? e=some i)
  {y:Value} (hy:(Builtin.lenOf y).run P w=.ok 0 w) (hf:(Builtin.firstCells i.size 0 y).run P w=.ok #[] w) :
  (Builtin.append_ #[t,t'] ty #[.slice none 0 0,y]).run P w=.ok (.slice none 0 0) w:=by
 rcases hu' with hu'|⟨e',hu'⟩ <;>
  simp [Builtin.append_,run_underlying hu,run_underlying hu',Go.sizeOf,typeInfo,hi,hy,hf]
theorem run_app_grow {t t' ty e:TypeId} {i:TypeInfo} {z:Value} (hu:P.underlying t=some (.slice e)) (hu':AppT P t') (hi:P.info? e=some i) (hz:i.zero=some z)
  {base:Option Addr} {n cap m:Nat} {y:Value} {olds news:Array Value} (hy:(Builtin.lenOf y).run P w=.ok m w) (hof:(Builtin.firstCells i.size n (.slice base n cap)).run P w.drew=.ok olds w.drew) (hf:(Builtin.firstCells i.size m y).run P w.drew=.ok news w.drew)
  (h:cap<n+m) (h63:n+m≤9223372036854775807) (hfit:Builtin.nextslicecap (n+m) cap*i.bytes≤281474976710656) :
  (Builtin.append_ #[t,t'] ty #[.slice base n cap,y]).run P w =
   .ok (.slice (some ⟨w.heap.size,0,none⟩) (n+m) (grownCap w (n+m) cap e)) (w.drew.alloc (.cells (olds++news++Builtin.zeroCells z.cells (grownCap w (n+m) cap e - (n+m))) e)):=by
 have h1:¬n+m≤cap:=by omega
 have h2:¬((9223372036854775807:Int)<((n:Int)+(m:Int))):=by omega
 have h3:¬(281474976710656<Builtin.nextslicecap (n+m) cap*i.bytes):=by omega
 rcases hu' with hu'|⟨e',hu'⟩ <;>
  simp [Builtin.append_,run_underlying hu,run_underlying hu',Go.sizeOf,typeInfo,zeroValue,hi,hz,hy,h1,h2,h3,Question.forced,grownCap,hof,hf,newRow]
end
end Go.Ab
