/- The abstract layer: a row out of a map that a callee made is taken back by the function that appends to it. -/
import Derived.Test.YtnaeedamiaoipaaGreatDoorAbMC
import Derived.Shelf.Slices.CompactS
set_option linter.all false
set_option linter.unusedVariables false
namespace Go.Ab
open Go.RowKit
section
variable {P:Program}
def V.ib:V→Bool
 | .int _ _|.bool _=>true
 | _=>false
def c9w (env:List (Nat×V)):List Nat→List (Nat×V)
 | []=>[]
 | t::r=>match find t env with
  | some x=>bif x.ib then (t,x)::c9w env r else c9w env r
  | none=>c9w env r
theorem VR.ib {g g':Gh} {w:World} {v:Value} {x:V} (h:VR g w v x) (hi:x.ib=true):VR g' w v x:=by
 cases h<;>first|(simp [V.ib] at hi;done)|skip
 rename_i h
 cases h<;>first|(simp [V.ib] at hi;done)|skip
 ·exact .rd (.bool _)
 ·rename_i hr;exact .rd (.int _ _ hr)
theorem Rd.ib {S S':Nat→Prop} {w:World} {v:Value} {x:V} (h:Rd S w v x) (hi:x.ib=true):Rd S' w v x:=by
 cases h<;>first|(simp [V.ib] at hi;done)|skip
 ·exact .bool _
 ·rename_i hr;exact .int _ _ hr
def Cov (P:Program) (c:Ctx) (z:Nat):Prop:=(∃o,find z c.H0=some o)∧(∀b,c.g0.S b∨c.gp.S b→(c.gp.base z).testBit b=true)∧∀w',a2d c.gp.S c.wp w'→f3e P w'
theorem Cov.le {c c':Ctx} {z:Nat} (h:Cov P c z) (hl:c.le c'):Cov P c' z:=by
 unfold Cov at *
 rw [hl.H0,hl.g0,hl.gp,hl.wp];exact h
def g0x (xs:List V):Prop:=∀x∈xs,∀c∈x.cells,c.ib=true
def g4k (s z id k:Nat) (keep:List Nat) (σ:St) (K:St→Prop):Prop :=
 match get s σ.env with
 | .nsl z' k' xs=>bif Nat.beq z' z&&Nat.beq k' k&&!Nat.beq id z then g0x xs∧K ⟨(s,.osl id k 0 xs.length)::c9w σ.env keep,[(id,.arr k xs none)]⟩ else False
 | _=>False
theorem g08 {α:Type} {f:α→V} {m p:Nat} {o:Option (List α)}:b6h true m p (o.map (slV f))=.tup [.nsl m p ((o.getD []).map f),.bool o.isSome]:=by cases o<;>rfl
attribute [go_sem] a10.go_hnote g08 V.isNilS g4k c9w V.ib
end
end Go.Ab
namespace Go.Ab
open Go.RowKit Go.Proofs Go.Sort
section
variable {P:Program}
theorem c7p {zs:List Str}:∀x∈zs.map V.str,x.cells.length=1∧(∀c∈x.cells,c.one=true)∧x.sealed=true:=by
 intro x hx
 obtain ⟨z,_,rfl⟩:=vD.1 hx
 exact ⟨rfl,fun c hc=>by simp [V.cells] at hc;subst hc;rfl,rfl⟩
theorem d2z {g:Gh} {w:World} {xs:List Str} (hO:OR g w 1000 (.arr 1 (xs.map V.str))) (hn:¬g.nil 1000) :
  ∃(cur:Array Value) (e:TypeId) (fz:Nat×Nat),w.heap[g.ρ 1000]?=some (.cells cur e fz)∧g.base 1000+xs.length≤cur.size∧a3n fz cur.size∧(∀j,j<xs.length→cur[g.base 1000+j]?=some (encStr (xs.getD j [])))∧∀x∈xs,x.length≤maxLen:=by
 rcases hO with ⟨h,_⟩|⟨_,ha⟩
 ·exact absurd h hn
 obtain ⟨cur,e,fz,k1,k2,k3,k4⟩:=ha.row
 have hlen:g.base 1000+xs.length≤cur.size:=by
  have:=ha.len
  simp at this
  rw [k2];omega
 have hrd:∀j,(hj:j<xs.length)→cur.getD (g.base 1000+j) undef=encStr xs[j]∧(xs[j]).length≤maxLen:=fun j hj=>by
  have:=k4 j 0 (.str xs[j]) (.str xs[j]) (by simp [hj]) rfl
  have h2:Rd g.S w (cur.getD (g.base 1000+j) undef) (.str xs[j]):=by simpa using this
  obtain ⟨q,e1,e2,e3⟩:=(VR.rd (g:=g) h2).str_inv
  have hq:q=⟨(xs[j]).toArray⟩:=by
   apply ByteArray.ext
   apply wD.1
   rw [e2]
  refine ⟨by rw [e1,hq],?_⟩
  rw [←e2,xE];exact e3
 refine ⟨cur,e,fz,k1,hlen,k3.1,fun j hj=>?_,fun x hx=>?_⟩
 ·have:=(hrd j hj).1
  have hlt:g.base 1000+j<cur.size:=by omega
  rw [zC,zI hlt] at this
  rw [zI hlt]
  simp at this
  simp [this,zE,zJ hj]
 ·obtain ⟨j,hj,rfl⟩:=List.getElem_of_mem hx
  exact (hrd j hj).2
theorem b34 {f:Nat} (hc:callable P f=true) {xs ys:List Str} {r:V} (hyl:ys.length=xs.length) (hym:∀x∈ys,x∈xs∨x=[])
  (R:Option Addr→Nat→Value)
  (h1:∀(blk off cap:Nat) (w:World),Holds encStr w blk off xs.toArray→blk<w.heap.size→xs.length≤cap →
   Calls P f #[.slice (some ⟨blk,off,none⟩) xs.length cap] w fun e w'=>e=.returned (R (some ⟨blk,off,none⟩) cap)∧∃n os,w'=grow (putRow encStr (Go.Sort.ahead w n) blk off ys.toArray) os)
  (h2:xs=[]→∀(p:Option Addr) (cap:Nat) (w:World),Calls P f #[.slice p 0 cap] w fun e w'=>e=.returned (R p cap)∧w'=w)
  (hr:∀(g:Gh) (w':World) (p:Option Addr) (cap:Nat),(∀{k:Nat},k≤xs.length→VR g w' (.slice p k cap) (.osl 1000 1 0 k))→VR g w' (R p cap) r) :
  a0o P f [.osl 1000 1 0 xs.length] [(1000,.arr 1 (xs.map V.str))] (fun r' H'=>r'=r∧H'=[(1000,.arr 1 (ys.map V.str))]):=by
 refine b5e hc c7p (by simp [hyl]) fun g w vals hH hsz hv=>?_
 have hf:find 1000 [(1000,a0g.arr 1 (xs.map V.str))]=some (.arr 1 (xs.map V.str)):=by simp [find]
 have hO:=hH.obj 1000 _ hf
 have hv0:=hv 0 _ rfl
 have hval:vals=#[vals.getD 0 undef]:=by
  have:vals.size=1:=hsz
  apply Array.ext
  ·simp [this]
  ·intro i h1 h2
   have:i=0:=by omega
   subst this
   simp only [List.getElem_toArray,List.getElem_cons_zero]
   rw [zC,zI h1,xX]
 rw [hval]
 by_cases h0:xs=[]
 ·have hy0:ys=[]:=zM.1 (by rw [hyl,h0];rfl)
  have hh2:=h2 h0
  subst h0
  have:∃p cap,vals.getD 0 undef=.slice p 0 cap:=by
   rcases hv0.osl_inv with ⟨_,e,_⟩|⟨_,o,c,e,_⟩
   ·exact ⟨none,0,e⟩
   ·exact ⟨_,c,e⟩
  obtain ⟨p,cap,e⟩:=this
  rw [e]
  rw [e] at hv0
  refine (hh2 p cap w).mono ?_
  rintro en w' ⟨rfl,rfl⟩
  refine ⟨_,rfl,hr g _ p cap fun {k} hk=>?_,rfl,rfl,rfl,vI _,fun _ _ _=>rfl,fun _=>by simp [hy0],fun hn cur e fz hh=>⟨cur,hh,rfl,fun i x c hi=>by simp [hy0] at hi⟩⟩
  have:k=0:=by simpa using hk
  subst this;exact hv0
 ·have hlen:0<xs.length:=List.length_pos_iff.2 h0
  rcases hv0.osl_inv with ⟨_,_,e⟩|⟨hn,o,cc,ev,ho,hcap,hlc,hmx⟩
  ·omega
  have ho':o=g.base 1000:=by
   rcases ho with h|h
   ·omega
   ·simpa using h
  subst ho'
  rw [ev]
  obtain ⟨cur,e,fz,k1,k2,k3,k4,k5⟩:=d2z hO hn
  have hHo:Holds encStr w (g.ρ 1000) (g.base 1000) xs.toArray:=fun j hj=>by
   have hj':j<xs.length:=by simpa using hj
   refine ⟨?_,?_⟩
   ·simp only [World.cell?,k1]
    rw [k4 j hj']
    simp [hj']
   ·simp only [World.frozen?,k1]
    exact k3.at (by omega)
  refine (h1 _ _ cc w hHo (hO.block hn) hlc).mono ?_
  rintro en w' ⟨rfl,n,os,rfl⟩
  have hblk:=hO.block hn
  refine ⟨_,rfl,hr g _ _ cc fun {k} hk=>.osl 1000 1 0 k _ cc hn (.inr (by simp)) hcap (by omega) hmx,rfl,rfl,rfl,by simp [Go.Sort.grow,Go.Sort.ahead],fun b hb hne=>?_,fun h=>absurd h hn,fun _ cur0 e0 fz0 hh=>?_⟩
  ·have hne':b≠g.ρ 1000:=hne.resolve_right hn
   rw [Go.Sort.heap_grow_old _ _ (by simpa [Go.Sort.ahead] using hb)]
   simp [Go.Sort.putRow,Go.Sort.mapBlock,zW,hne'.symm,Go.Sort.ahead]
  ·rw [k1] at hh;cases hh
   refine ⟨Go.Sort.putCells encStr (g.base 1000) ys.toArray cur,?_,by simp [Go.Sort.putCells],fun i x c hi hcx=>?_⟩
   ·rw [Go.Sort.heap_grow_old _ _ (by simpa [Go.Sort.ahead] using hblk)]
    simp [Go.Sort.putRow,Go.Sort.mapBlock,zW,Go.Sort.ahead,k1,Go.Sort.onCells]
   ·have hi':i<ys.length:=by
     have:=(zG.1 hi).1
     simpa using this
    have hx:x=.str (ys[i]):=by
     have:=(zG.1 hi).2
     simpa using this.symm
    subst hx
    simp [V.cells] at hcx
    subst hcx
    have hi2:i<xs.length:=by omega
    have hlt:g.base 1000+i<cur.size:=by omega
    have:(Go.Sort.putCells encStr (g.base 1000) ys.toArray cur).getD (g.base 1000+i) undef=encStr (ys[i]):=by
     rw [zC]
     simp [Go.Sort.putCells,Array.getElem?_mapIdx,hlt,hi']
    rw [this]
    have hl:(ys[i]).length≤maxLen:=by
     rcases hym _ (x6 hi') with h|h
     ·exact k5 _ h
     ·rw [h];exact vG _
    have:=Rd.str (S:=g.S) (w:=grow (putRow encStr (Go.Sort.ahead w n) (g.ρ 1000) (g.base 1000) ys.toArray) os) ⟨(ys[i]).toArray⟩ (by simpa [ByteArray.size] using hl)
    simpa [encStr] using this
def c1f (xs:List Str):Option (List Str):=chk (decide (xs.length<4611686018427387904)) (some (xs.mergeSort fun x y=>decide (x≤y)))
def a4u (xs:List Str):Option (Nat×List Str):=chk (decide (xs.length<4611686018427387904)) (some ((Go.Lib.compact xs).length,Go.Lib.compact xs++List.replicate (xs.length - (Go.Lib.compact xs).length) []))
theorem b2x {xs:List Str} {y:Nat×List Str} (hy:a4u xs=some y):xs.length<4611686018427387904∧y=((Go.Lib.compact xs).length,Go.Lib.compact xs++List.replicate (xs.length - (Go.Lib.compact xs).length) []):=by
 unfold a4u chk at hy
 cases hd:decide (xs.length<4611686018427387904) with
 | false=>rw [hd] at hy;cases hy
 | true=>rw [hd] at hy;exact ⟨of_decide_eq_true hd,(wF hy).symm⟩
theorem b57 (xs:List Str):(Go.Lib.compact xs).length≤xs.length:=by
 simp only [Go.Lib.compact,Go.Lib.compactUpTo,wL]
 exact vA (List.length_filter_le _ _) (by simp)
theorem c0d (xs:List Str):∀x∈Go.Lib.compact xs,x∈xs:=by
 intro x hx
 simp only [Go.Lib.compact,Go.Lib.compactUpTo,vD,wI,List.mem_range] at hx
 obtain ⟨i,⟨hi,_⟩,rfl⟩:=hx
 simp [hi]
theorem c2z {f:Nat} (hc:callable P f=true)
  (h1:∀(blk off cap:Nat) (zs:List (List UInt8)) (w:World),Holds encStr w blk off zs.toArray→blk<w.heap.size→zs.length<4611686018427387904 →
   Calls P f #[.slice (some ⟨blk,off,none⟩) zs.length cap] w fun e w'=>e=.returned (.tuple #[])∧∃n os,w'=grow (putRow encStr (Go.Sort.ahead w n) blk off (zs.mergeSort fun x y=>decide (x≤y)).toArray) os)
  (h2:∀(p:Option Addr) (cap:Nat) (w:World),Calls P f #[.slice p 0 cap] w fun e w'=>e=.returned (.tuple #[])∧w'=w) {xs ys:List Str} (hy:c1f xs=some ys) :
  a0o P f [.osl 1000 1 0 xs.length] [(1000,.arr 1 (xs.map V.str))] (fun r H'=>r=.tup []∧H'=[(1000,.arr 1 (ys.map V.str))]):=by
 unfold c1f chk at hy
 cases hd:decide (xs.length<4611686018427387904) with
 | false=>rw [hd] at hy;cases hy
 | true =>
  rw [hd] at hy
  obtain rfl:=wF hy
  exact b34 hc (by simp) (fun x hx=>.inl ((List.mem_mergeSort).1 hx)) (fun _ _=>.tuple #[]) (fun blk off cap w a b _=>h1 blk off cap xs w a b (of_decide_eq_true hd)) (fun _ p cap w=>h2 p cap w)
   fun g w' p cap _=>.tup _ _ rfl fun i x hx=>by simp at hx
theorem b5t {f:Nat} (hc:callable P f=true)
  (h1:∀(blk off cap:Nat) (zs:List (List UInt8)) (w:World),Holds encStr w blk off zs.toArray→zs.length≤9223372036854775807→zs.length≤cap →
   Calls P f #[.slice (some ⟨blk,off,none⟩) zs.length cap] w fun e w'=>e=.returned (.slice (some ⟨blk,off,none⟩) (Go.Lib.compact zs).length cap)∧∃q,w'=putRow encStr (Go.Sort.ahead w q) blk off (Go.Lib.compact zs++List.replicate (zs.length - (Go.Lib.compact zs).length) []).toArray)
  (h2:∀(p:Option Addr) (cap:Nat) (w:World),Calls P f #[.slice p 0 cap] w fun e w'=>e=.returned (.slice p 0 cap)∧w'=w) {xs:List Str} {y:Nat×List Str} (hy:a4u xs=some y) :
  a0o P f [.osl 1000 1 0 xs.length] [(1000,.arr 1 (xs.map V.str))] (fun r H'=>r=.osl 1000 1 0 y.1∧H'=[(1000,.arr 1 (y.2.map V.str))]):=by
 obtain ⟨hb,rfl⟩:=b2x hy
 have hle:=b57 xs
 refine b34 hc (by simp;omega) (fun x hx=>?_) (fun p cap=>.slice p (Go.Lib.compact xs).length cap) (fun blk off cap w a _ c=>(h1 blk off cap xs w a (by omega) c).mono fun e w' ⟨e1,q,e2⟩=>⟨e1,q,#[],by rw [e2];exact (Go.Sort.grow_empty _).symm⟩) (fun h p cap w=>?_) fun g w' p cap h=>h hle
 ·rcases wJ.1 hx with h|h
  ·exact .inl (c0d xs x h)
  ·exact .inr (List.mem_replicate.1 h).2
 ·have hc0:Go.Lib.compact xs=[]:=zM.1 (by rw [h] at hle;simpa [h] using hle)
  rw [hc0];exact h2 p cap w
theorem c7u {xs ys:List Str} (hy:c1f xs=some ys):ys.length=xs.length:=by
 unfold c1f chk at hy
 cases hd:decide (xs.length<4611686018427387904) with
 | false=>rw [hd] at hy;cases hy
 | true =>
  rw [hd] at hy
  obtain rfl:=wF hy
  simp
theorem c0e {xs:List Str} {y:Nat×List Str} (hy:a4u xs=some y):y.1≤y.2.length∧y.2.length=xs.length:=by
 obtain ⟨_,rfl⟩:=b2x hy
 have:=b57 xs
 simp
 omega
end
end Go.Ab
namespace Go.Ab
def Le {α:Type} (a b:Option α):Prop:=∀r,a=some r→b=some r
section
variable {α β σ ρ:Type}
theorem Le.refl {a:Option α}:Le a a:=fun _ h=>h
theorem Le.non {b:Option α}:Le none b:=fun _ h=>by cases h
theorem Le.bind {a b:Option α} {f g:α→Option β} (h:Le a b) (k:∀y,Le (f y) (g y)):Le (a.bind f) (b.bind g):=fun r hr=>by
 cases ha:a with
 | none=>rw [ha] at hr;cases hr
 | some y=>rw [ha] at hr;rw [h y ha];exact k y r hr
theorem Le.jn {a b:Option α} {f g:α→Option β} (h:Le a b) (k:∀y,Le (f y) (g y)):Le (Go.Ab.jn a f) (Go.Ab.jn b g):=Le.bind h k
theorem Le.grp {x:α} {f g:α→Option β} (k:∀y,Le (f y) (g y)):Le (Go.Ab.grp x f) (Go.Ab.grp x g):=k x
theorem Le.chk {c:Bool} {a b:Option α} (h:Le a b):Le (Go.Ab.chk c a) (Go.Ab.chk c b):=by
 cases c
 ·exact Le.non
 ·exact h
theorem Le.cond {c:Bool} {a b a' b':Option α} (h:Le a b) (h':Le a' b'):Le (bif c then a else a') (bif c then b else b'):=by
 cases c
 ·exact h'
 ·exact h
theorem Le.fl {o:Fl σ ρ} {f g:σ→Option β} {f' g':ρ→Option β} (h:∀s,Le (f s) (g s)) (h':∀s,Le (f' s) (g' s)):Le (Fl.elim f f' o) (Fl.elim g g' o):=by
 cases o
 ·exact h _
 ·exact h' _
theorem Le.sum {o:Sum σ ρ} {f g:σ→Option β} {f' g':ρ→Option β} (h:∀s,Le (f s) (g s)) (h':∀s,Le (f' s) (g' s)):Le (Sum.elim f f' o) (Sum.elim g g' o):=by
 cases o
 ·exact h _
 ·exact h' _
def e7t {γ:Type} (f:List α→Option γ):List α→Option γ
 | []=>f []
 | [x]=>f [x]
 | _=>none
theorem Le.perm {γ:Type} {f g:List α→Option γ} {l:List α} (h:∀l,Le (f l) (g l)):Le (e7t f l) (c1r g l):=by
 intro r hr
 cases l with
 | nil=>exact b7m fun l hl=>by rw [hl.eq_nil];exact h _ _ hr
 | cons x t =>
  cases t with
  | nil=>exact b7m fun l hl=>by rw [List.perm_singleton.1 hl];exact h _ _ hr
  | cons y t=>cases hr
def g3b (c:Bool) (_ b:Option α):Option α:=bif c then none else b
theorem Le.amb {c:Bool} {a a' b b':Option α} (h:Le b' b):Le (g3b c a' b') (amb c a b):=by
 intro r hr
 cases c with
 | true=>cases hr
 | false=>rw [d7s (by simp)];exact h _ hr
def pwB:List Int→Bool
 | []=>true
 | a::r=>r.all (fun b=>decide (a≤b))&&pwB r
theorem c8s:∀{l:List Int},pwB l=true→l.Pairwise fun a b=>decide (a≤b)=true
 | [],_=>List.Pairwise.nil
 | a::r,h=>by
  simp only [pwB,wC,wB] at h
  exact List.Pairwise.cons h.1 (c8s h.2)
def c3d (xs:List Int):Option (List Int):=bif pwB xs&&decide (xs.length<4611686018427387904) then some xs else none
theorem Le.sort {xs:List Int}:Le (c3d xs) (b40 xs):=by
 intro r hr
 unfold c3d at hr
 cases hc:pwB xs&&decide (xs.length<4611686018427387904) with
 | false=>rw [hc] at hr;cases hr
 | true =>
  rw [hc] at hr
  cases hr
  rw [wC,xN] at hc
  unfold b40
  rw [if_pos hc.2,List.mergeSort_of_pairwise (c8s hc.1)]
theorem Le.forL {f g:Int→α→σ→Option (Fl σ ρ)} (h:∀k a s,Le (f k a s) (g k a s)):∀(xs:List α) (k:Int) (s:σ),Le (Go.Ab.forL f xs k s) (Go.Ab.forL g xs k s)
 | [],k,s=>Le.refl
 | x::r,k,s=>by
  simp only [Go.Ab.forL]
  exact Le.bind (h k x s) fun o=>Le.fl (fun s=>Le.forL h r (k+1) s) fun _=>Le.refl
theorem Le.foldL {f g:Int→α→σ→Option σ} (h:∀k a s,Le (f k a s) (g k a s)):∀(xs:List α) (k:Int) (s:σ),Le (Go.Ab.foldL f xs k s) (Go.Ab.foldL g xs k s)
 | [],k,s=>Le.refl
 | x::r,k,s=>by
  simp only [Go.Ab.foldL]
  exact Le.bind (h k x s) fun s=>Le.foldL h r (k+1) s
theorem Le.iter {f g:σ→Option (Fl σ ρ)} (h:∀s,Le (f s) (g s)):∀(n:Nat) (s:σ),Le (Go.Ab.iter f n s) (Go.Ab.iter g n s)
 | 0,s=>Le.non
 | n+1,s=>by
  simp only [Go.Ab.iter]
  exact Le.bind (h s) fun o=>Le.fl (fun s=>Le.iter h n s) fun _=>Le.refl
theorem Le.loop {f g:σ→Option (Fl σ ρ)} {n:Nat} {s:σ} (h:∀s,Le (f s) (g s)):Le (Go.Ab.iter f n s) (Go.Ab.loop g s):=fun r hr =>
 a3s.2 ⟨n,Le.iter h n s r hr⟩
theorem Le.lim {f:Nat→Option α} {c:Option α} {n:Nat} (h:∀m,n≤m→Le c (f m)):Le c (Go.Ab.lim f):=fun r hr =>
 d75 ⟨n,fun m hm=>h m hm r hr⟩
end
end Go.Ab