/- The abstract layer, part 10: notes, which change the description and not the world. -/
import Derived.Test.YtoojdaakeiadjaaGreatDoorAbSndM
import Derived.RangeFuncLeaves
import Derived.RangeFuncFrom
import Derived.OrdersIn
import Derived.Lib.Builder
import Derived.Lib.UnsafeStr
import Derived.Sort.Grow
import Derived.Deep.Draws
import Derived.Shelf.RegionOpenPlain
set_option linter.all false
namespace Go.Ab
open Go.RowKit
inductive a5r where
 | gc (keep:List Nat)
 | acc (s id k:Nat)
 | shut (id:Nat)
 | shq (id:Nat)
 | fact (s:Nat)
 | ren (a b:Nat)
 | renq (a b:Nat)
 | nl (s:Nat)
 | accC (id off id2 k:Nat) (ty:Option TypeId)
 | ownC (id off id2 k:Nat) (ty:Option TypeId)
 | fz (s:Nat)
 | trim (s:Nat)
 | fzc (s:Nat)
 | bld (id:Nat)
 | nm (id z k:Nat)
 | adq (s q:Nat)
 | toA (s q:Nat)
 | ofA (s q:Nat)
 | accA (s off id k:Nat)
 | rwn (id k:Nat)
 | rsa (id:Nat)
def V.isB (id:Nat):V→Bool
 | .nilp=>true
 | .ptr j off=>Nat.beq j id&&Nat.beq off 0
 | .bptr j=>Nat.beq j id
 | _=>false
mutual
def V.fact:V→Prop
 | .int k n=>rng k n
 | .str s=>s.length≤9223372036854775807
 | .sl xs=>xs.length≤9223372036854775807∧b3q xs
 | .osl _ _ _ n=>n≤9223372036854775807
 | .agg cs=>V.factL cs
 | .tup cs=>V.factL cs
 | .eptr x _=>x.fact
 | _=>True
def V.factL:List V→Prop
 | []=>True
 | x::r=>x.fact∧V.factL r
def b3q:List V→Prop
 | []=>True
 | x::r=>x.fact∧b3q r
end
theorem b0h:∀{xs:List V},b3q xs↔∀x∈xs,x.fact
 | []=>by simp [b3q]
 | x::r=>by simp [b3q,b0h (xs:=r)]
theorem a6v:∀{xs:List V},V.factL xs↔∀x∈xs,x.fact
 | []=>by simp [V.factL]
 | x::r=>by simp [V.factL,a6v (xs:=r)]
theorem a4h {n:Nat} (h:n≤maxLen):n≤9223372036854775807:=wV h (by unfold maxLen;decide)
theorem a8r {x:V} (h:∀(j:Nat) (c:V),x.cells[j]?=some c→c.fact):x.fact:=by
 cases x with
 | agg cs =>
  simp only [V.fact]
  refine a6v.2 fun c hc=>?_
  obtain ⟨j,hj⟩:=zS.1 hc
  exact h j c hj
 | _=>exact h 0 _ rfl
theorem Rd.fact {S:Nat→Prop} {w:World} {v:Value} {x:V} (h:Rd S w v x):x.fact:=by
 induction h with
 | int k n h=>exact a13.1 h
 | str s h =>
  simp only [V.fact]
  have:s.data.toList.length=s.size:=by rw [z6];rfl
  rw [this];exact a4h h
 | agg vs cs hl hr ih =>
  simp only [V.fact]
  refine a6v.2 fun c hc=>?_
  obtain ⟨j,hj⟩:=zS.1 hc
  exact ih j c hj
 | nilsl=>simp [V.fact,b3q]
 | slz a cap=>simp [V.fact,b3q]
 | sl g o len cap k cur e fz xs hS hg hl hm hc hb hk hr ih =>
  simp only [V.fact]
  refine ⟨by rw [hl];exact a4h hm,b0h.2 fun x hx=>?_⟩
  obtain ⟨i,hi⟩:=zS.1 hx
  exact a8r fun j c hj=>ih i j x c hi hj
 | _=>simp [V.fact]
theorem VR.fact {g:Gh} {w:World} {v:Value} {x:V} (h:VR g w v x):x.fact:=by
 induction h with
 | rd h=>exact h.fact
 | eptr b o off cur e fz x hS hg hb hr=>simp only [V.fact];exact a8r fun j c hc=>(hr j c hc).fact
 | oslnil=>simp [V.fact]
 | osl id k lo len o c h ho hc hl hm=>simp only [V.fact];exact a4h (wV hl hm)
 | agg vs cs hl hr ih =>
  simp only [V.fact]
  refine a6v.2 fun c hc=>?_
  obtain ⟨j,hj⟩:=zS.1 hc
  exact ih j c hj
 | tup vs cs hl hr ih =>
  simp only [V.fact]
  refine a6v.2 fun c hc=>?_
  obtain ⟨j,hj⟩:=zS.1 hc
  exact ih j c hj
 | _=>simp [V.fact]
def c2x:List (Nat×V)→Prop
 | []=>True
 | (_,x)::r=>x.fact∧c2x r
def a03.fact:a03→Prop
 | .arr _ xs _=>xs.length≤9223372036854775807∧b3q xs
 | .cells cs _=>V.factL cs
 | .map _ es=>∀e∈es,e.1.fact∧e.2.fact
 | .iter es _=>∀e∈es,e.1.fact∧e.2.fact
 | .mark=>True
 | .nmap _ _ _ es=>∀e∈es,e.1.fact∧e.2.fact
 | .rws _ xss=>xss.length≤9223372036854775807∧∀xs∈xss,xs.length≤9223372036854775807∧b3q xs
def b36:Heap→Prop
 | []=>True
 | (_,x)::r=>x.fact∧b36 r
theorem OR.fact {g:Gh} {w:World} {id:Nat} {o:a03} (h:OR g w id o):o.fact:=by
 cases o with
 | cells cs ty =>
  obtain ⟨_,cur,e,fz,_,_,_,h4⟩:=h
  refine a6v.2 fun c hc=>?_
  obtain ⟨j,hj⟩:=zS.1 hc
  exact (h4 j c hj).fact
 | arr k xs ty =>
  rcases h with ⟨_,rfl⟩|⟨_,_,⟨cur,e,fz,_,_,_,h4⟩,h5,h6,_⟩
  ·simp [a03.fact,b3q]
  ·refine ⟨a4h (by omega),b0h.2 fun x hx=>?_⟩
   obtain ⟨i,hi⟩:=zS.1 hx
   exact a8r fun j c hj=>(h4 i j x c hi hj).fact
 | rws k xss =>
  rcases h with ⟨_,rfl⟩|⟨_,⟨⟨cur,e,fz,_,_,_,h4⟩,h5,h6⟩⟩
  ·simp [a03.fact]
  ·refine ⟨a4h (by omega),fun xs hx=>?_⟩
   obtain ⟨q,hq⟩:=zS.1 hx
   have hr:=h4 q xs hq
   unfold b2c at hr
   split at hr
   ·rcases hr with ⟨_,rfl⟩|hr
    ·simp [b3q]
    ·unfold a2w at hr
     split at hr
     ·simp [b3q,V.cells,V.fact]
     ·cases hr
   ·obtain ⟨_,_,cap,_,_,_,_,_,_,⟨cur',e',fz',_,_,_,r4⟩,r5,r6,_⟩:=hr
    refine ⟨a4h (by omega),b0h.2 fun x hx=>?_⟩
    obtain ⟨i,hi⟩:=zS.1 hx
    exact a8r fun j c hj=>(r4 i j x c hi hj).fact
 | map kd es =>
  obtain ⟨_,ents,clock,_,he,_⟩:=h
  intro kv hm
  obtain ⟨i,hi⟩:=zS.1 hm
  have hlt:i<ents.toList.length:=by
   rw [he.len];exact (zG.1 hi).1
  obtain ⟨h5,h6⟩:=he.rd i ents.toList[i] kv (zJ hlt) hi
  exact ⟨h5.fact,h6.fact⟩
 | mark=>trivial
 | nmap z k kd es =>
  obtain ⟨_,ents,clock,_,he,_⟩:=h
  intro kv hm
  obtain ⟨i,hi⟩:=zS.1 hm
  have hlt:i<ents.toList.length:=by
   rw [he.len];exact (zG.1 hi).1
  obtain ⟨h5,h6⟩:=he.rd i ents.toList[i] kv (zJ hlt) hi
  exact ⟨h5.fact,h6.fact⟩
 | iter rem cur =>
  obtain ⟨_,h⟩:=h
  rcases h with ⟨x,y,z,_,rfl,_⟩|⟨m,clock,seen,ents,_,_,_,_,_,hl,hr,_⟩
  ·intro kv hm;cases hm
  ·intro kv hm
   obtain ⟨i,hi⟩:=zS.1 hm
   have hlt:i<(ents.toList.filter fun e=>!seen.contains e.born).length:=by
    rw [hl];exact (zG.1 hi).1
   obtain ⟨h5,h6⟩:=hr i _ kv (zJ hlt) hi
   exact ⟨h5.fact,h6.fact⟩
mutual
def V.ren (a b:Nat):V→V
 | .ptr id off=>.ptr (bif Nat.beq id a then b else id) off
 | .osl id k lo n=>.osl (bif Nat.beq id a then b else id) k lo n
 | .optr id k i off=>.optr (bif Nat.beq id a then b else id) k i off
 | .omap id=>.omap (bif Nat.beq id a then b else id)
 | .bptr id=>.bptr (bif Nat.beq id a then b else id)
 | .nsl z k xs=>.nsl (bif Nat.beq z a then b else z) k xs
 | .nsmap z k kd es=>.nsmap (bif Nat.beq z a then b else z) k kd es
 | .at_ id x=>.at_ (bif Nat.beq id a then b else id) x
 | .agg cs=>.agg (V.renL a b cs)
 | .tup cs=>.tup (V.renL a b cs)
 | .fn f cs=>.fn f (V.renL a b cs)
 | x=>x
def V.renL (a b:Nat):List V→List V
 | []=>[]
 | x::r=>x.ren a b::V.renL a b r
end
def c9l (a b:Nat):List (Nat×V)→List (Nat×V)
 | []=>[]
 | (n,x)::r=>(n,x.ren a b)::c9l a b r
def a03.ren (a b:Nat):a03→a03
 | .cells cs t=>.cells (V.renL a b cs) t
 | .nmap z k kd es=>.nmap (bif Nat.beq z a then b else z) k kd es
 | o=>o
def c5i (a b:Nat):Heap→Heap
 | []=>[]
 | (n,o)::r=>(bif Nat.beq n a then b else n,o.ren a b)::c5i a b r
mutual
def V.shut (n:Nat) (xs:List V):V→V
 | .osl id k lo len=>bif Nat.beq n id then .sl ((xs.drop lo).take len) else .osl id k lo len
 | .agg cs=>.agg (V.sealL n xs cs)
 | .tup cs=>.tup (V.sealL n xs cs)
 | .fn f cs=>.fn f (V.sealL n xs cs)
 | .ptr id off=>bif Nat.beq n id then .any else .ptr id off
 | .optr id k i off=>bif Nat.beq n id then .any else .optr id k i off
 | .omap id=>bif Nat.beq n id then .any else .omap id
 | .bptr id=>bif Nat.beq n id then .any else .bptr id
 | x=>x
def V.sealL (n:Nat) (xs:List V):List V→List V
 | []=>[]
 | x::r=>x.shut n xs::V.sealL n xs r
end
mutual
def V.sealOK (n k m:Nat):V→Prop
 | .osl id k' lo len=>bif Nat.beq n id then (bif Nat.beq k k' then lo+len≤m else False) else True
 | .agg cs=>V.sealOKs n k m cs
 | .tup cs=>V.sealOKs n k m cs
 | .fn _ cs=>V.sealOKs n k m cs
 | _=>True
def V.sealOKs (n k m:Nat):List V→Prop
 | []=>True
 | x::r=>x.sealOK n k m∧V.sealOKs n k m r
end
def b4f (n:Nat) (xs:List V):List (Nat×V)→List (Nat×V)
 | []=>[]
 | (m,x)::r=>(m,x.shut n xs)::b4f n xs r
def a4z (n k m:Nat):List (Nat×V)→Prop
 | []=>True
 | (_,x)::r=>x.sealOK n k m∧a4z n k m r
def a03.shut (n:Nat) (xs:List V):a03→a03
 | .cells cs t=>.cells (V.sealL n xs cs) t
 | o=>o
def a03.sealOK (n k m:Nat):a03→Prop
 | .cells cs _=>V.sealOKs n k m cs
 | _=>True
def b1k (n:Nat) (xs:List V):Heap→Heap
 | []=>[]
 | (m,o)::r=>bif Nat.beq n m then b1k n xs r else (m,o.shut n xs)::b1k n xs r
def a4y (n k m:Nat):Heap→Prop
 | []=>True
 | (_,x)::r=>x.sealOK n k m∧a4y n k m r
mutual
def V.shm (n:Nat) (y:V):V→V
 | .omap id=>bif Nat.beq n id then y else .omap id
 | .agg cs=>.agg (V.shmL n y cs)
 | .tup cs=>.tup (V.shmL n y cs)
 | .fn f cs=>.fn f (V.shmL n y cs)
 | x=>x
def V.shmL (n:Nat) (y:V):List V→List V
 | []=>[]
 | x::r=>V.shm n y x::V.shmL n y r
end
def c60 (n:Nat) (y:V):List (Nat×V)→List (Nat×V)
 | []=>[]
 | (m,x)::r=>(m,V.shm n y x)::c60 n y r
def a03.shm (n:Nat) (y:V):a03→a03
 | .cells cs t=>.cells (V.shmL n y cs) t
 | o=>o
def c3n (n:Nat) (y:V):Heap→Heap
 | []=>[]
 | (m,o)::r=>bif Nat.beq n m then c3n n y r else (m,o.shm n y)::c3n n y r
def c9n (keep:List Nat):List (Nat×V)→List (Nat×V)
 | []=>[]
 | (n,x)::r=>bif mem n keep then (n,x)::c9n keep r else c9n keep r
def a0t (n:Nat):Heap→Bool
 | []=>false
 | (m,_)::r=>Nat.beq n m||a0t n r
mutual
def V.unnil:V→V
 | .nils=>.sl []
 | .agg cs=>.agg (V.unnilL cs)
 | x=>x
def V.unnilL:List V→List V
 | []=>[]
 | x::r=>x.unnil::V.unnilL r
end
mutual
def V.oids:V→List Nat
 | .osl id _ _ _=>[id]
 | .omap id=>[id]
 | .agg cs=>V.oidsL cs
 | .tup cs=>V.oidsL cs
 | _=>[]
def V.oidsL:List V→List Nat
 | []=>[]
 | x::r=>x.oids++V.oidsL r
end
def f0d (id:Nat) (σ:St) (K:St→Prop):Prop :=
 match find id σ.heap with
 | some (.arr k xs _)=>a4z id k xs.length σ.env∧a4y id k xs.length σ.heap∧K ⟨b4f id xs σ.env,b1k id xs σ.heap⟩
 | some (.map kd es)=>K ⟨c60 id (.smap kd es) σ.env,c3n id (.smap kd es) σ.heap⟩
 | some (.nmap z k kd es)=>K ⟨c60 id (.nsmap z k kd es) σ.env,c3n id (.nsmap z k kd es) σ.heap⟩
 | some (.rws _ xss)=>(xss.all fun xs=>!a2w xs)=true∧a4z id 1 (xss.map V.sl).length σ.env∧a4y id 1 (xss.map V.sl).length (put id (.arr 1 (xss.map V.sl)) σ.heap)∧K ⟨b4f id (xss.map V.sl) σ.env,b1k id (xss.map V.sl) (put id (.arr 1 (xss.map V.sl)) σ.heap)⟩
 | none=>K σ
 | _=>False
def d0c:List Nat→St→(St→Prop)→Prop
 | [],σ,K=>K σ
 | id::r,σ,K=>f0d id σ fun σ'=>d0c r σ' K
mutual
def V.tr (n lo len:Nat):V→V
 | .osl id k l m=>bif Nat.beq id n then (bif Nat.beq l lo&&Nat.beq m len then .osl id k 0 m else .any) else .osl id k l m
 | .ptr id off=>bif Nat.beq id n then .any else .ptr id off
 | .optr id k i off=>bif Nat.beq id n then .any else .optr id k i off
 | .omap id=>bif Nat.beq id n then .any else .omap id
 | .bptr id=>bif Nat.beq id n then .any else .bptr id
 | .nsl z k xs=>bif Nat.beq z n then .any else .nsl z k xs
 | .nsmap z k kd es=>bif Nat.beq z n then .any else .nsmap z k kd es
 | .agg cs=>.agg (V.trL n lo len cs)
 | .tup cs=>.tup (V.trL n lo len cs)
 | .fn f cs=>.fn f (V.trL n lo len cs)
 | x=>x
def V.trL (n lo len:Nat):List V→List V
 | []=>[]
 | x::r=>x.tr n lo len::V.trL n lo len r
end
def trE (n lo len:Nat):List (Nat×V)→List (Nat×V)
 | []=>[]
 | (m,x)::r=>(m,x.tr n lo len)::trE n lo len r
def a03.tr (n lo len:Nat):a03→a03
 | .cells cs t=>.cells (V.trL n lo len cs) t
 | .nmap z k kd es=>bif Nat.beq z n then .map kd es else .nmap z k kd es
 | o=>o
def trH (n lo len:Nat):Heap→Heap
 | []=>[]
 | (m,o)::r=>(m,o.tr n lo len)::trH n lo len r
def V.isNils:V→Bool
 | .nils=>true
 | _=>false
def a0e (H0:Heap) (n:a5r) (σ:St) (K:St→Prop):Prop :=
 match n with
 | .rwn id k=>match find id σ.heap with
  | some (.arr q xs _)=>bif Nat.beq q 1&&xs.all V.isNils then K ⟨σ.env,put id (.rws k (xs.map fun _=>[])) σ.heap⟩ else False
  | some (.rws k' _)=>bif Nat.beq k k' then K σ else False
  | _=>False
 | .rsa id=>match find id σ.heap with
  | some (.rws _ xss)=>bif xss.all (fun xs=>!a2w xs) then K ⟨σ.env,put id (.arr 1 (xss.map V.sl)) σ.heap⟩ else False
  | some (.arr _ _ _)=>K σ
  | _=>False
 | .adq s q=>match find s σ.env,find q σ.env with
  | some (.ptr id _),some _=>∀b,K ⟨put q (.at_ id b) σ.env,σ.heap⟩
  | _,_=>False
 | .toA s q=>match find s σ.env,find q σ.env with
  | some (.ptr id off),some (.at_ id' b)=>bif Nat.beq id id' then K ⟨put s (.adr b off) σ.env,σ.heap⟩ else False
  | _,_=>False
 | .ofA s q=>match find s σ.env,find q σ.env with
  | some (.adr b off),some (.at_ id b')=>b=b'∧K ⟨put s (.ptr id off) σ.env,σ.heap⟩
  | _,_=>False
 | .nm id z k=>match find id σ.heap with
  | some (.map kd es)=>match find z σ.heap with
   | some .mark=>bif es.all fun e=>e.2.isNils then K ⟨σ.env,put id (.nmap z k kd (es.map fun e=>(e.1,.sl []))) σ.heap⟩ else False
   | _=>False
  | _=>False
 | .ownC id off id2 k ty=>match find id σ.heap with
  | some (.cells cs t)=>match cs[off]? with
   | some .nils=>bif a0x H0 σ [id2]&&!a0t id2 σ.heap&&!Nat.beq id id2 then K ⟨σ.env,put id (.cells (cs.set off (.osl id2 k 0 0)) t) (put id2 (.arr k [] ty) σ.heap)⟩ else False
   | some (.osl j _ _ _)=>bif Nat.beq j id2 then K σ else bif a0x H0 σ [id2]&&!a0t id2 σ.heap&&a0t j σ.heap then K ⟨c9l j id2 σ.env,c5i j id2 σ.heap⟩ else False
   | _=>False
  | _=>False
 | .fz s=>match find s σ.env with
  | some x=>d0c x.oids σ fun σ'=>(match find s σ'.env with|some y=>K ⟨put s y.unnil σ'.env,σ'.heap⟩|none=>False)
  | none=>K σ
 | .fzc s=>match find s σ.env with
  | some (.ptr id _)=>match find id σ.heap with
   | some (.cells cs _)=>d0c (V.oidsL cs) σ fun σ'=>(match find id σ'.heap with|some (.cells ds t)=>K ⟨σ'.env,put id (.cells (V.unnilL ds) t) σ'.heap⟩|_=>False)
   | _=>False
  | _=>False
 | .bld id=>match find id σ.heap with
  | some (.cells (x::cs) t)=>bif x.isB id then K ⟨σ.env,put id (.cells (.bptr id::cs) t) σ.heap⟩ else False
  | _=>False
 | .trim s=>match find s σ.env with
  | some (.osl id k lo n)=>match find id σ.heap,find id H0 with
   | some (.arr k' xs t),none=>bif Nat.beq k k' then K ⟨trE id lo n σ.env,put id (.arr k ((xs.drop lo).take n) t) (trH id lo n σ.heap)⟩ else False
   | _,_=>False
  | _=>K σ
 | .gc keep=>K ⟨c9n keep σ.env,σ.heap⟩
 | .fact s=>(get s σ.env).fact→K σ
 | .accC id off id2 k ty=>match find id σ.heap with
  | some (.cells cs t)=>match cs[off]? with
   | some .nils=>bif a0x H0 σ [id2]&&!a0t id2 σ.heap&&!Nat.beq id id2 then K ⟨σ.env,put id (.cells (cs.set off (.osl id2 k 0 0)) t) (put id2 (.arr k [] ty) σ.heap)⟩ else False
   | _=>False
  | _=>False
 | .nl s=>(match find s σ.env with|some x=>K ⟨put s x.unnil σ.env,σ.heap⟩|none=>False)
 | .ren j id=>bif a0x H0 σ [id]&&!a0t id σ.heap&&!Nat.beq j id then K ⟨c9l j id σ.env,c5i j id σ.heap⟩ else False
 | .renq j id=>bif a0t j σ.heap then (bif a0x H0 σ [id]&&!a0t id σ.heap&&!Nat.beq j id then K ⟨c9l j id σ.env,c5i j id σ.heap⟩ else False) else K σ
 | .shq id=>match find id σ.heap with
  | some (.arr k xs _)=>a4z id k xs.length σ.env∧a4y id k xs.length σ.heap∧K ⟨b4f id xs σ.env,b1k id xs σ.heap⟩
  | some (.map kd es)=>K ⟨c60 id (.smap kd es) σ.env,c3n id (.smap kd es) σ.heap⟩
  | some (.nmap z k kd es)=>K ⟨c60 id (.nsmap z k kd es) σ.env,c3n id (.nsmap z k kd es) σ.heap⟩
  | some (.rws _ xss)=>(xss.all fun xs=>!a2w xs)=true∧a4z id 1 (xss.map V.sl).length σ.env∧a4y id 1 (xss.map V.sl).length (put id (.arr 1 (xss.map V.sl)) σ.heap)∧K ⟨b4f id (xss.map V.sl) σ.env,b1k id (xss.map V.sl) (put id (.arr 1 (xss.map V.sl)) σ.heap)⟩
  | none=>K σ
  | _=>False
 | .shut id=>match find id σ.heap with
  | some (.arr k xs _)=>a4z id k xs.length σ.env∧a4y id k xs.length σ.heap∧K ⟨b4f id xs σ.env,b1k id xs σ.heap⟩
  | some (.map kd es)=>K ⟨c60 id (.smap kd es) σ.env,c3n id (.smap kd es) σ.heap⟩
  | some (.nmap z k kd es)=>K ⟨c60 id (.nsmap z k kd es) σ.env,c3n id (.nsmap z k kd es) σ.heap⟩
  | some (.rws _ xss)=>(xss.all fun xs=>!a2w xs)=true∧a4z id 1 (xss.map V.sl).length σ.env∧a4y id 1 (xss.map V.sl).length (put id (.arr 1 (xss.map V.sl)) σ.heap)∧K ⟨b4f id (xss.map V.sl) σ.env,b1k id (xss.map V.sl) (put id (.arr 1 (xss.map V.sl)) σ.heap)⟩
  | _=>False
 | .accA s off id k=>match find s σ.env with
  | some (.agg cs)=>match cs[off]? with
   | some .nils=>bif a0x H0 σ [id]&&!a0t id σ.heap then K ⟨put s (.agg (cs.set off (.osl id k 0 0))) σ.env,put id (.arr k []) σ.heap⟩ else False
   | some (.osl j _ _ _)=>bif Nat.beq j id then K σ else bif a0x H0 σ [id]&&!a0t id σ.heap&&a0t j σ.heap then K ⟨c9l j id σ.env,c5i j id σ.heap⟩ else False
   | _=>False
  | _=>False
 | .acc s id k=>match get s σ.env with
  | .nils=>bif a0x H0 σ [id]&&!a0t id σ.heap then K ⟨put s (.osl id k 0 0) σ.env,put id (.arr k []) σ.heap⟩ else False
  | .osl j _ _ _=>bif Nat.beq j id then K σ else bif a0x H0 σ [id]&&!a0t id σ.heap&&a0t j σ.heap then K ⟨c9l j id σ.env,c5i j id σ.heap⟩ else False
  | _=>False
section
variable {P:Program} {c:Ctx} {g:Gh} {σ:St} {a:Act} {w:World}
theorem b59 {keep:List Nat} {s:Nat} {x:V}:∀{env:List (Nat×V)},find s (c9n keep env)=some x→find s env=some x
 | [],h=>by cases h
 | (m, y)::r,h=>by
  simp only [c9n] at h
  cases hb:Nat.beq s m with
  | true =>
   have e:=zR hb;subst e
   cases hm:mem s keep with
   | true=>rw [hm] at h;simpa [find] using h
   | false =>
    rw [hm] at h
    simp only [vC] at h
    have no:∀{env:List (Nat×V)},find s (c9n keep env)=none:=by
     intro env
     induction env with
     | nil=>rfl
     | cons p r ih =>
      obtain ⟨q,z⟩:=p
      simp only [c9n]
      cases hq:mem q keep with
      | false=>simpa using ih
      | true =>
       simp only [vE,find]
       cases hs:Nat.beq s q with
       | true=>have e:=zR hs;subst e;rw [hm] at hq;cases hq
       | false=>simpa using ih
    rw [no] at h;cases h
  | false =>
   simp only [find,hb,vC]
   cases hm:mem m keep with
   | true=>rw [hm] at h;simp only [vE,find,hb,vC] at h;exact b59 h
   | false=>rw [hm] at h;exact b59 h
theorem a5x (p q:Nat):∀cs:List V,V.renL p q cs=cs.map (V.ren p q)
 | []=>rfl
 | x::r=>by simp [V.renL,a5x p q r]
theorem b9c (p q s:Nat):∀env:List (Nat×V),find s (c9l p q env)=(find s env).map (V.ren p q)
 | []=>rfl
 | (m,x)::r=>by
  simp only [c9l,find]
  cases Nat.beq s m with
  | true=>rfl
  | false=>exact b9c p q s r
theorem a9f {n:Nat}:∀{H:Heap},a0t n H=true↔∃o,find n H=some o
 | []=>by simp [a0t,find]
 | (m,x)::r=>by
  simp only [a0t,find]
  cases Nat.beq n m with
  | true=>simp
  | false=>simpa using a9f
theorem b9b {p q:Nat} (hpq:p≠q):∀{H:Heap},a0t q H=false→∀n o,find n (c5i p q H)=some o→(n=q∧∃o',find p H=some o'∧o=o'.ren p q)∨(n≠q∧n≠p∧∃o',find n H=some o'∧o=o'.ren p q)
 | [],_,n,o,h=>by cases h
 | (m,x)::r,hq,n,o,h=>by
  simp only [a0t,z4] at hq
  obtain ⟨hqm,hqr⟩:=hq
  have ih:=b9b hpq hqr n o
  have hmq:m≠q:=fun e=>by rw [e,wW] at hqm;cases hqm
  simp only [c5i] at h
  by_cases hm:m=p
  ·subst hm
   simp only [wW,vE,find] at h
   by_cases hn:n=q
   ·subst hn
    simp only [wW,vE,xI] at h
    exact .inl ⟨rfl,x,by simp [find],h.symm⟩
   ·have hb:Nat.beq n q=false:=by
     cases hb:Nat.beq n q with
     | true=>exact absurd (zR hb) hn
     | false=>rfl
    simp only [hb,vC] at h
    rcases ih h with ⟨h1,_⟩|⟨h1,h2,o',h3,h4⟩
    ·exact absurd h1 hn
    ·have hb':Nat.beq n m=false:=by
      cases hb:Nat.beq n m with
      | true=>exact absurd (zR hb) h2
      | false=>rfl
     exact .inr ⟨h1,h2,o',by simp only [find,hb',vC];exact h3,h4⟩
  ·have hb:Nat.beq m p=false:=by
    cases hb:Nat.beq m p with
    | true=>exact absurd (zR hb) hm
    | false=>rfl
   simp only [hb,vC,find] at h
   by_cases hn:n=m
   ·subst hn
    simp only [wW,vE,xI] at h
    exact .inr ⟨hmq,hm,x,by simp [find],h.symm⟩
   ·have hb':Nat.beq n m=false:=by
     cases hb:Nat.beq n m with
     | true=>exact absurd (zR hb) hn
     | false=>rfl
    simp only [hb',vC] at h
    rcases ih h with ⟨h1,o',h3,h4⟩|⟨h1,h2,o',h3,h4⟩
    ·refine .inl ⟨h1,o',?_,h4⟩
     have hb2:Nat.beq p m=false:=by
      cases hb:Nat.beq p m with
      | true=>exact absurd (zR hb).symm hm
      | false=>rfl
     simp only [find,hb2,vC];exact h3
    ·exact .inr ⟨h1,h2,o',by simp only [find,hb',vC];exact h3,h4⟩
def Gh.dup (g:Gh) (p q:Nat):Gh :=
 ⟨g.S,fun i=>if i=q then g.ρ p else g.ρ i,fun i=>if i=q then g.base p else g.base i,fun i=>if i=q then g.cap p else g.cap i,fun i=>if i=q then g.nil p else g.nil i,g.sub⟩
theorem c83 {g:Gh} {p q i:Nat} (h:i≠q):g.agree (g.dup p q) i:=by simp [Gh.agree,Gh.dup,h]
theorem a1t {g:Gh} {p q i:Nat} (h:i≠q):(g.dup p q).ρ (bif Nat.beq i p then q else i)=g.ρ i∧(g.dup p q).base (bif Nat.beq i p then q else i)=g.base i∧(g.dup p q).cap (bif Nat.beq i p then q else i)=g.cap i ∧
  ((g.dup p q).nil (bif Nat.beq i p then q else i)↔g.nil i):=by
 by_cases e:i=p
 ·subst e;simp [Gh.dup]
 ·have:Nat.beq i p=false:=by
   cases hb:Nat.beq i p with
   | true=>exact absurd (zR hb) e
   | false=>rfl
  simp [this,Gh.dup,h]
theorem VR.ren {p q:Nat} {v:Value} {x:V} (h:VR g w v x) (hq:x.has q=false):VR (g.dup p q) w v (x.ren p q):=by
 have hne:∀{i:Nat},Nat.beq q i=false→i≠q:=fun h e=>by rw [e,wW] at h;cases h
 induction h with
 | @rd v x h =>
  have:x.ren p q=x:=by
   have flat:∀{y:V} {u:Value},Rd g.S w u y→y.ren p q=y:=by
    intro y u hy
    induction hy with
    | agg vs cs hl hr ih =>
     simp only [V.ren,a5x,V.agg.injEq]
     refine xM fun i=>?_
     rw [xK]
     cases hc:cs[i]? with
     | none=>rfl
     | some c=>simp [ih i c hc]
    | _=>rfl
   exact flat h
  rw [this];exact .rd h
 | any v=>exact .any v
 | ptr id off =>
  simp only [V.has] at hq
  have:=(a1t (g:=g) (p:=p) (hne hq)).1
  simp only [V.ren];rw [←this];exact .ptr _ off
 | eptr b o off cur e fz x hS hg hb hr=>exact .eptr b o off cur e fz x hS hg hb hr
 | oslnil id k lo h =>
  simp only [V.has] at hq
  exact .oslnil _ k lo ((a1t (hne hq)).2.2.2.2 h)
 | osl id k lo len o c h ho hc hl hm =>
  simp only [V.has] at hq
  obtain ⟨h1,h2,h3,h4⟩:=a1t (g:=g) (p:=p) (hne hq)
  simp only [V.ren];rw [←h1]
  exact .osl _ k lo len o c (fun h'=>h (h4.1 h')) (by rw [h2];exact ho) (by rw [h3];exact hc) hl hm
 | optr id k i off =>
  simp only [V.has] at hq
  obtain ⟨h1,h2,h3,h4⟩:=a1t (g:=g) (p:=p) (hne hq)
  simp only [V.ren];rw [←h1,←h2];exact .optr _ k i off
 | omap id =>
  simp only [V.has] at hq
  have:=(a1t (g:=g) (p:=p) (hne hq)).1
  simp only [V.ren];rw [←this];exact .omap _
 | bnil id=>exact .bnil _
 | bself id =>
  simp only [V.has] at hq
  have:=(a1t (g:=g) (p:=p) (hne hq)).1
  simp only [V.ren];rw [←this];exact .bself _
 | at_ id b v h =>
  simp only [V.has] at hq
  simp only [V.ren];exact .at_ _ b v ((a1t (g:=g) (p:=p) (hne hq)).1.trans h)
 | nsl z k xs v h =>
  simp only [V.has] at hq
  have:=(a1t (g:=g) (p:=p) (hne hq)).2.1
  simp only [V.ren];exact .nsl _ k xs v (by rw [this];exact h)
 | nsmap b z k kd ents clock es hr hS hg hn =>
  simp only [V.has] at hq
  have:=(a1t (g:=g) (p:=p) (hne hq)).2.1
  simp only [V.ren];exact .nsmap b _ k kd ents clock es hr hS hg fun i ent kv h1 h2=>by rw [this];exact hn i ent kv h1 h2
 | agg vs cs hl hr ih =>
  simp only [V.ren,a5x]
  refine .agg vs _ (by simpa using hl) fun i c hc=>?_
  rw [xK] at hc
  cases hx:cs[i]? with
  | none=>rw [hx] at hc;cases hc
  | some y=>rw [hx] at hc;cases hc;exact ih i y hx (V.hasL_mem (zZ hx) (by simpa [V.has] using hq))
 | tup vs cs hl hr ih =>
  simp only [V.ren,a5x]
  refine .tup vs _ (by simpa using hl) fun i c hc=>?_
  rw [xK] at hc
  cases hx:cs[i]? with
  | none=>rw [hx] at hc;cases hc
  | some y=>rw [hx] at hc;cases hc;exact ih i y hx (V.hasL_mem (zZ hx) (by simpa [V.has] using hq))
 | fn f vs cs hl hr ih =>
  simp only [V.ren,a5x]
  refine .fn f vs _ (by simpa using hl) fun i c hc=>?_
  rw [xK] at hc
  cases hx:cs[i]? with
  | none=>rw [hx] at hc;cases hc
  | some y=>rw [hx] at hc;cases hc;exact ih i y hx (V.hasL_mem (zZ hx) (by simpa [V.has] using hq))
 | bnd f vs cs hl hr ih =>
  simp only [V.ren,a5x]
  refine .bnd f vs _ (by simpa using hl) fun i c hc=>?_
  rw [xK] at hc
  cases hx:cs[i]? with
  | none=>rw [hx] at hc;cases hc
  | some y=>rw [hx] at hc;cases hc;exact ih i y hx (V.hasL_mem (zZ hx) (by simpa [V.has] using hq))
theorem OR.ren {p q n:Nat} {o:a03} (h:OR g w n o) (hn:n≠q) (hq:o.has q=false):OR (g.dup p q) w (bif Nat.beq n p then q else n) (o.ren p q):=by
 obtain ⟨h1,h2,h3,h4⟩:=a1t (g:=g) (p:=p) hn
 cases o with
 | cells cs ty =>
  obtain ⟨hnil,cur,e,fz,k1,k2,k3,k4⟩:=h
  refine ⟨fun h=>hnil (h4.1 h),cur,e,fz,by rw [h1];exact k1,by rw [a5x];simpa using k2,k3,fun i c hc=>?_⟩
  rw [a5x,xK] at hc
  cases hx:cs[i]? with
  | none=>rw [hx] at hc;cases hc
  | some y=>rw [hx] at hc;cases hc;exact (k4 i y hx).ren (V.hasL_mem (zZ hx) (by simpa [a03.has] using hq))
 | arr k xs ty =>
  rcases h with ⟨hnil,hx⟩|⟨hnil,ha⟩
  ·exact .inl ⟨h4.2 hnil,hx⟩
  ·refine .inr ⟨fun h=>hnil (h4.1 h),?_⟩
   rw [h1,h2,h3];exact ha
 | map kd es =>
  obtain ⟨hnil,ents,clock,k1,k2⟩:=h
  exact ⟨fun h=>hnil (h4.1 h),ents,clock,by rw [h1];exact k1,k2⟩
 | mark =>
  obtain ⟨k1,k2⟩:=h
  exact ⟨h4.2 k1,fun b hb=>k2 b (by rw [←h2];exact hb)⟩
 | nmap z k kd es =>
  obtain ⟨hnil,ents,clock,k1,k2,k3,k4,k5,k6⟩:=h
  have hz:z≠q:=fun e=>by simp [a03.has,e] at hq
  have:=(a1t (g:=g) (p:=p) hz).2.1
  exact ⟨fun h=>hnil (h4.1 h),ents,clock,by rw [h1];exact k1,k2,k3,k4,fun i ent kv a1 a2=>by rw [this];exact k5 i ent kv a1 a2,fun b hb=>k6 b (by rw [←this];exact hb)⟩
 | iter rem cur =>
  obtain ⟨hnil,k1⟩:=h
  exact ⟨fun h=>hnil (h4.1 h),by rw [h1];exact k1⟩
 | rws k xss =>
  rcases h with ⟨hnil,hx⟩|⟨hnil,ha⟩
  ·exact .inl ⟨h4.2 hnil,hx⟩
  ·refine .inr ⟨fun h=>hnil (h4.1 h),?_⟩
   rw [h1,h2,h3];exact ha
theorem Rel.ren {p q:Nat} (h:Rel P c g σ a w) (hpq:p≠q) (hcl:Clean c σ q) (hin:a0t q σ.heap=false):Rel P c (g.dup p q) ⟨c9l p q σ.env,c5i p q σ.heap⟩ a w:=by
 have hfind:∀n o,find n σ.heap=some o→n≠q:=fun n o hn e=>by
  have:=a9f.2 ⟨o,hn⟩
  rw [e,hin] at this;cases this
 have ren_p:(bif Nat.beq p p then q else p)=q:=by simp
 have ren_n:∀{n},n≠p→(bif Nat.beq n p then q else n)=n:=fun {n} hn=>by
  have:Nat.beq n p=false:=by
   cases hb:Nat.beq n p with
   | true=>exact absurd (zR hb) hn
   | false=>rfl
  simp [this]
 have key:∀n o,find n (c5i p q σ.heap)=some o→∃m o',find m σ.heap=some o'∧o=o'.ren p q∧n=(bif Nat.beq m p then q else m)∧m≠q:=fun n o hn=>by
  rcases b9b hpq hin n o hn with ⟨h1,o',h2,h3⟩|⟨h1,h2,o',h3,h4⟩
  ·exact ⟨p,o',h2,h3,by rw [ren_p];exact h1,hfind _ _ h2⟩
  ·exact ⟨n,o',h3,h4,(ren_n h2).symm,h1⟩
 have cv:Cnv g (g.dup p q) σ.heap (c5i p q σ.heap):=by
  refine ⟨fun n o hn hnil=>?_,fun i j o o' hi hj hni hnj he=>?_,rfl⟩
  ·obtain ⟨m,o1,h1,rfl,rfl,h4⟩:=key n o hn
   obtain ⟨e1,_,_,e2⟩:=a1t (g:=g) (p:=p) h4
   exact ⟨m,o1,h1,fun h=>hnil (e2.2 h),e1,by cases o1<;>first|exact .inl rfl|exact .inr ⟨rfl,rfl⟩⟩
  ·obtain ⟨m,o1,h1,rfl,rfl,h4⟩:=key i o hi
   obtain ⟨m',o1',h1',rfl,rfl,h4'⟩:=key j o' hj
   obtain ⟨e1,_,_,e2⟩:=a1t (g:=g) (p:=p) h4
   obtain ⟨e1',_,_,e2'⟩:=a1t (g:=g) (p:=p) h4'
   rw [e1,e1'] at he
   have:=h.hp.inj m m' o1 o1' h1 h1' (fun h=>hni (e2.2 h)) (fun h=>hnj (e2'.2 h)) he
   rw [this]
 refine ⟨h.size,h.dfr,fun s x hx=>?_,⟨fun n o hn=>?_,fun i j o o' hi hj hni hnj he=>?_,fun n o hn hnil hS=>?_,h.hp.lt,h.hp.tabs,cv.sub1 h.hp fun b hb=>.inl hb,cv.sub2 h.hp⟩,⟨h.fr.os,h.fr.tape,h.fr.output,h.fr.size,h.fr.old,fun n o hn hnil=>?_,h.fr.sup,h.fr.sub,fun n o hn=>?_,cv.own2 h.fr,h.fr.sb⟩⟩
 ·simp only [b9c] at hx
  cases hy:find s σ.env with
  | none=>rw [hy] at hx;cases hx
  | some y =>
   rw [hy] at hx;cases hx
   obtain ⟨h1,h2⟩:=h.env s y hy
   exact ⟨h1,h2.ren (a2v hcl.2.1 hy)⟩
 ·obtain ⟨m,o',h1,rfl,rfl,h4⟩:=key n o hn
  exact (h.hp.obj m o' h1).ren h4 (a2r hcl.2.2 h1)
 ·obtain ⟨m,o1,h1,rfl,rfl,h4⟩:=key i o hi
  obtain ⟨m',o1',h1',rfl,rfl,h4'⟩:=key j o' hj
  obtain ⟨e1,_,_,e2⟩:=a1t (g:=g) (p:=p) h4
  obtain ⟨e1',_,_,e2'⟩:=a1t (g:=g) (p:=p) h4'
  rw [e1,e1'] at he
  have:=h.hp.inj m m' o1 o1' h1 h1' (fun h=>hni (e2.2 h)) (fun h=>hnj (e2'.2 h)) he
  rw [this]
 ·obtain ⟨m,o1,h1,rfl,rfl,h4⟩:=key n o hn
  obtain ⟨e1,_,_,e2⟩:=a1t (g:=g) (p:=p) h4
  rw [e1] at hS
  exact h.hp.sep m o1 h1 (fun h=>hnil (e2.2 h)) hS
 ·obtain ⟨m,o1,h1,rfl,rfl,h4⟩:=key n o hn
  obtain ⟨e1,_,_,e2⟩:=a1t (g:=g) (p:=p) h4
  rw [e1]
  exact h.fr.own m o1 h1 (fun h=>hnil (e2.2 h))
 ·refine (h.fr.par n o hn).trans (c83 fun e=>?_)
  rw [e,hcl.1] at hn;cases hn
theorem a4f (n:Nat) (xs:List V):∀cs:List V,V.sealL n xs cs=cs.map (V.shut n xs)
 | []=>rfl
 | x::r=>by simp [V.sealL,a4f n xs r]
theorem a3x {n k m:Nat}:∀{cs:List V},V.sealOKs n k m cs→∀c∈cs,c.sealOK n k m
 | [],_,_,h=>by cases h
 | x::r,h,c,hc=>by
  simp only [V.sealOKs] at h
  rcases wO.1 hc with rfl|hc
  ·exact h.1
  ·exact a3x h.2 c hc
theorem b6p (n s:Nat) (xs:List V):∀env:List (Nat×V),find s (b4f n xs env)=(find s env).map (V.shut n xs)
 | []=>rfl
 | (m,x)::r=>by
  simp only [b4f,find]
  cases Nat.beq s m with
  | true=>rfl
  | false=>exact b6p n s xs r
theorem b2o {n k m s:Nat} {x:V}:∀{env:List (Nat×V)},a4z n k m env→find s env=some x→x.sealOK n k m
 | (q,y)::r,h,hf=>by
  simp only [a4z] at h
  simp only [find] at hf
  cases hb:Nat.beq s q with
  | true=>rw [hb] at hf;cases hf;exact h.1
  | false=>rw [hb] at hf;exact b2o h.2 hf
theorem b2n {n k m s:Nat} {x:a03}:∀{H:Heap},a4y n k m H→find s H=some x→x.sealOK n k m
 | (q,y)::r,h,hf=>by
  simp only [a4y] at h
  simp only [find] at hf
  cases hb:Nat.beq s q with
  | true=>rw [hb] at hf;cases hf;exact h.1
  | false=>rw [hb] at hf;exact b2n h.2 hf
theorem a1r {n s:Nat} {xs:List V} {o:a03}:∀{H:Heap},find s (b1k n xs H)=some o→s≠n∧∃o',find s H=some o'∧o=o'.shut n xs
 | (m,x)::r,h=>by
  simp only [b1k] at h
  cases hb:Nat.beq n m with
  | true =>
   rw [hb] at h
   obtain ⟨h1,o',h2,h3⟩:=a1r (H:=r) h
   have e:=zR hb;subst e
   have hb':Nat.beq s n=false:=by
    cases hb:Nat.beq s n with
    | true=>exact absurd (zR hb) h1
    | false=>rfl
   exact ⟨h1,o',by simp only [find,hb',vC];exact h2,h3⟩
  | false =>
   rw [hb] at h
   simp only [vC,find] at h
   cases hs:Nat.beq s m with
   | true =>
    rw [hs] at h;cases h
    have e:=zR hs;subst e
    refine ⟨fun e=>?_,x,by simp [find],rfl⟩
    rw [e,wW] at hb;cases hb
   | false =>
    rw [hs] at h
    obtain ⟨h1,o',h2,h3⟩:=a1r (H:=r) h
    exact ⟨h1,o',by simp only [find,hs,vC];exact h2,h3⟩
def Gh.sealed (g:Gh) (n:Nat):Gh:={ g with S:=fun b=>g.S b∨(¬g.nil n∧b=g.ρ n) }
theorem y9 (g:Gh) (n i:Nat):g.agree (g.sealed n) i:=⟨rfl,rfl,rfl,vF⟩
theorem VR.shut {n k:Nat} {xs:List V} {ty:Option TypeId} {v:Value} {x:V} (ho:OR g w n (.arr k xs ty)) (h:VR g w v x) (hok:x.sealOK n k xs.length):VR (g.sealed n) w v (x.shut n xs):=by
 have hk:a1l g.S w w:=fun _ _=>rfl
 have hs:∀b,g.S b→(g.sealed n).S b:=fun _ h=>.inl h
 have up:∀{v:Value} {x:V},VR g w v x→VR (g.sealed n) w v x:=fun h=>h.mono hk hs fun id _=>y9 g n id
 induction h with
 | @rd v x h =>
  have:x.shut n xs=x:=by
   have flat:∀{y:V} {u:Value},Rd g.S w u y→y.shut n xs=y:=by
    intro y u hy
    induction hy with
    | agg vs cs hl hr ih =>
     simp only [V.shut,a4f,V.agg.injEq]
     refine xM fun i=>?_
     rw [xK]
     cases hc:cs[i]? with
     | none=>rfl
     | some c=>simp [ih i c hc]
    | _=>rfl
   exact flat h
  rw [this];exact .rd (h.mono hk hs)
 | any v=>exact .any v
 | ptr id off =>
  simp only [V.shut]
  cases Nat.beq n id with
  | true=>exact .any _
  | false=>exact up (.ptr id off)
 | eptr b o off cur e fz x hS hg hb hr=>exact up (.eptr b o off cur e fz x hS hg hb hr)
 | oslnil id k' lo h =>
  simp only [V.shut]
  cases hb:Nat.beq n id with
  | true =>
   have e:=zR hb;subst e
   simp only [vE,List.take_zero];exact .rd .nilsl
  | false=>exact up (.oslnil id k' lo h)
 | osl id k' lo len o c h hoo hc hl hm =>
  simp only [V.shut]
  cases hb:Nat.beq n id with
  | false=>exact up (.osl id k' lo len o c h hoo hc hl hm)
  | true =>
   have e:=zR hb;subst e
   simp only [V.sealOK,hb,vE] at hok ⊢
   cases hkb:Nat.beq k k' with
   | false=>rw [hkb] at hok;exact hok.elim
   | true =>
    have e:=zR hkb;subst e
    rw [hkb] at hok;simp only [vE] at hok
    rcases ho with ⟨hn,_⟩|⟨hn,hkp,⟨cur,e,fz,h1,h2,h3,h4⟩,h5,h6,h7⟩
    ·exact absurd hn h
    ·have hlen:((xs.drop lo).take len).length=len:=by simp;omega
     refine .rd (.sl _ o len c k cur e fz _ (.inr ⟨h,rfl⟩) h1 hlen (wV hl hm) hl ?_ (fun x hx=>?_) fun i j x cx hi hj=>?_)
     ·rcases hoo with h0|h0
      ·exact .inl (by omega)
      ·refine .inr ?_
       rw [h0,h2,←vA]
       exact zX k (by omega)
     ·obtain ⟨a1,a2,a3⟩:=h7 x (zY (List.mem_of_mem_take hx))
      exact ⟨a1,a2,a3⟩
     ·have hil:i<len:=by
       have:=(zG.1 hi).1
       omega
      rw [xC,if_pos hil,xD] at hi
      have hoo':o=(g.base n+lo)*k:=hoo.resolve_left (by omega)
      have:=(h4 (lo+i) j x cx hi hj).mono hk hs
      have e1:o+i*k+j=(g.base n+(lo+i))*k+j:=by
       rw [hoo',←wN,vA (g.base n+lo) i k]
      rw [e1];exact this
 | optr id k' i off =>
  simp only [V.shut]
  cases Nat.beq n id with
  | true=>exact .any _
  | false=>exact up (.optr id k' i off)
 | omap id =>
  simp only [V.shut]
  cases Nat.beq n id with
  | true=>exact .any _
  | false=>exact up (.omap id)
 | bnil id =>
  simp only [V.shut]
  cases Nat.beq n id with
  | true=>exact .any _
  | false=>exact up (.bnil id)
 | bself id =>
  simp only [V.shut]
  cases Nat.beq n id with
  | true=>exact .any _
  | false=>exact up (.bself id)
 | at_ id b v h=>exact .at_ id b v h
 | nsl z k xs v h=>exact up (.nsl z k xs v h)
 | nsmap b z k kd ents clock es hr hS hg hn=>exact up (.nsmap b z k kd ents clock es hr hS hg hn)
 | agg vs cs hl hr ih =>
  simp only [V.shut,a4f]
  simp only [V.sealOK] at hok
  refine .agg vs _ (by simpa using hl) fun i c hc=>?_
  rw [xK] at hc
  cases hx:cs[i]? with
  | none=>rw [hx] at hc;cases hc
  | some y=>rw [hx] at hc;cases hc;exact ih i y hx (a3x hok y (zZ hx))
 | tup vs cs hl hr ih =>
  simp only [V.shut,a4f]
  simp only [V.sealOK] at hok
  refine .tup vs _ (by simpa using hl) fun i c hc=>?_
  rw [xK] at hc
  cases hx:cs[i]? with
  | none=>rw [hx] at hc;cases hc
  | some y=>rw [hx] at hc;cases hc;exact ih i y hx (a3x hok y (zZ hx))
 | fn f vs cs hl hr ih =>
  simp only [V.shut,a4f]
  simp only [V.sealOK] at hok
  refine .fn f vs _ (by simpa using hl) fun i c hc=>?_
  rw [xK] at hc
  cases hx:cs[i]? with
  | none=>rw [hx] at hc;cases hc
  | some y=>rw [hx] at hc;cases hc;exact ih i y hx (a3x hok y (zZ hx))
 | bnd f vs cs hl hr ih =>
  simp only [V.shut,a4f]
  simp only [V.sealOK] at hok
  refine .bnd f vs _ (by simpa using hl) fun i c hc=>?_
  rw [xK] at hc
  cases hx:cs[i]? with
  | none=>rw [hx] at hc;cases hc
  | some y=>rw [hx] at hc;cases hc;exact ih i y hx (a3x hok y (zZ hx))
theorem OR.shut {n k m:Nat} {xs:List V} {ty:Option TypeId} {o:a03} (ho:OR g w n (.arr k xs ty)) (h:OR g w m o) (hok:o.sealOK n k xs.length):OR (g.sealed n) w m (o.shut n xs):=by
 have hk:a1l g.S w w:=fun _ _=>rfl
 have hs:∀b,g.S b→(g.sealed n).S b:=fun _ h=>.inl h
 cases o with
 | cells cs ty =>
  obtain ⟨hnil,cur,e,fz,k1,k2,k3,k4⟩:=h
  simp only [a03.sealOK] at hok
  refine ⟨hnil,cur,e,fz,k1,by rw [a4f];simpa using k2,k3,fun i c hc=>?_⟩
  rw [a4f,xK] at hc
  cases hx:cs[i]? with
  | none=>rw [hx] at hc;cases hc
  | some y=>rw [hx] at hc;cases hc;exact (k4 i y hx).shut ho (a3x hok y (zZ hx))
 | arr k' ys _=>exact h.mono hk hs (y9 g n m) (fun _=>rfl) (fun i _=>y9 g n i) (w8 _) fun _ _=>⟨rfl,fun _ _=>rfl⟩
 | map kd es=>exact h.mono hk hs (y9 g n m) (fun _=>rfl) (fun i _=>y9 g n i) (w8 _) fun _ _=>⟨rfl,fun _ _=>rfl⟩
 | iter rem cur=>exact h.mono hk hs (y9 g n m) (fun _=>rfl) (fun i _=>y9 g n i) (w8 _) fun _ _=>⟨rfl,fun _ _=>rfl⟩
 | mark=>exact h.mono hk hs (y9 g n m) (fun _=>rfl) (fun i _=>y9 g n i) (w8 _) fun _ _=>⟨rfl,fun _ _=>rfl⟩
 | nmap z k' kd es=>exact h.mono hk hs (y9 g n m) (fun _=>rfl) (fun i _=>y9 g n i) (w8 _) fun _ _=>⟨rfl,fun _ _=>rfl⟩
 | rws k' xss=>exact h.mono hk hs (y9 g n m) (fun _=>rfl) (fun i _=>y9 g n i) (w8 _) fun _ _=>⟨rfl,fun _ _=>rfl⟩
theorem Rel.shut {n k:Nat} {xs:List V} {ty:Option TypeId} (h:Rel P c g σ a w) (hf:find n σ.heap=some (.arr k xs ty)) (he:a4z n k xs.length σ.env) (hh:a4y n k xs.length σ.heap) :
  Rel P c (g.sealed n) ⟨b4f n xs σ.env,b1k n xs σ.heap⟩ a w:=by
 have ho:=h.hp.obj n _ hf
 have cv:Cnv g (g.sealed n) σ.heap (b1k n xs σ.heap):=by
  refine ⟨fun m o hm hnil=>?_,fun i j o o' hi hj hni hnj heq=>?_,rfl⟩
  ·obtain ⟨_,o1,h1,rfl⟩:=a1r hm
   exact ⟨m,o1,h1,hnil,rfl,by cases o1<;>first|exact .inl rfl|exact .inr ⟨rfl,rfl⟩⟩
  ·obtain ⟨_,o1,h1,rfl⟩:=a1r hi
   obtain ⟨_,o2,h2,rfl⟩:=a1r hj
   exact h.hp.inj i j o1 o2 h1 h2 hni hnj heq
 refine ⟨h.size,h.dfr,fun s x hx=>?_,⟨fun m o hm=>?_,fun i j o o' hi hj hni hnj heq=>?_,fun m o hm hnil hS=>?_,fun b hb=>?_,fun w2 hw2=>h.hp.tabs w2 fun b hb=>hw2 b (.inl hb),cv.sub1 h.hp fun b hb=>hb.imp id fun hb=>⟨n,_,hf,hb.1,hb.2⟩,cv.sub2 h.hp⟩,⟨h.fr.os,h.fr.tape,h.fr.output,h.fr.size,h.fr.old,fun m o hm hnil=>?_,fun b hb=>.inl (h.fr.sup b hb),fun b hb=>?_,fun m o hm=>(h.fr.par m o hm).trans (y9 g n m),cv.own2 h.fr,h.fr.sb⟩⟩
 ·rw [b6p] at hx
  cases hy:find s σ.env with
  | none=>rw [hy] at hx;cases hx
  | some y =>
   rw [hy] at hx;cases hx
   obtain ⟨h1,h2⟩:=h.env s y hy
   exact ⟨h1,h2.shut ho (b2o he hy)⟩
 ·obtain ⟨_,o',h2,rfl⟩:=a1r hm
  exact OR.shut ho (h.hp.obj m o' h2) (b2n hh h2)
 ·obtain ⟨_,o1,h1,rfl⟩:=a1r hi
  obtain ⟨_,o2,h2,rfl⟩:=a1r hj
  exact h.hp.inj i j o1 o2 h1 h2 hni hnj heq
 ·obtain ⟨hne,o1,h1,rfl⟩:=a1r hm
  rcases hS with hS|⟨hS1,hS2⟩
  ·exact h.hp.sep m o1 h1 hnil hS
  ·exact hne (h.hp.inj m n o1 _ h1 hf hnil hS1 hS2)
 ·rcases hb with hb|⟨h1,rfl⟩
  ·exact h.hp.lt b hb
  ·exact ho.block h1
 ·obtain ⟨_,o1,h1,rfl⟩:=a1r hm
  exact h.fr.own m o1 h1 hnil
 ·rcases hb with hb|⟨h1,rfl⟩
  ·exact h.fr.sub b hb
  ·exact ⟨.inr (h.fr.own n _ hf h1).1,(h.fr.own n _ hf h1).2⟩
theorem a5v (n:Nat) (y:V):∀cs:List V,V.shmL n y cs=cs.map (V.shm n y)
 | []=>rfl
 | x::r=>by simp [V.shmL,a5v n y r]
theorem b9a (n s:Nat) (y:V):∀env:List (Nat×V),find s (c60 n y env)=(find s env).map (V.shm n y)
 | []=>rfl
 | (m,x)::r=>by
  simp only [c60,find]
  cases Nat.beq s m with
  | true=>rfl
  | false=>exact b9a n s y r
theorem a2g {n s:Nat} {y:V} {o:a03}:∀{H:Heap},find s (c3n n y H)=some o→s≠n∧∃o',find s H=some o'∧o=o'.shm n y
 | (m,x)::r,h=>by
  simp only [c3n] at h
  cases hb:Nat.beq n m with
  | true =>
   rw [hb] at h
   obtain ⟨h1,o',h2,h3⟩:=a2g (H:=r) h
   have e:=zR hb;subst e
   have hb':Nat.beq s n=false:=by
    cases hb:Nat.beq s n with
    | true=>exact absurd (zR hb) h1
    | false=>rfl
   exact ⟨h1,o',by simp only [find,hb',vC];exact h2,h3⟩
  | false =>
   rw [hb] at h
   simp only [vC,find] at h
   cases hs:Nat.beq s m with
   | true =>
    rw [hs] at h;cases h
    have e:=zR hs;subst e
    refine ⟨fun e=>?_,x,by simp [find],rfl⟩
    rw [e,wW] at hb;cases hb
   | false =>
    rw [hs] at h
    obtain ⟨h1,o',h2,h3⟩:=a2g (H:=r) h
    exact ⟨h1,o',by simp only [find,hs,vC];exact h2,h3⟩
theorem a8o {n:Nat} {kd:KD} {es:List (V×V)} (ho:OR g w n (.map kd es)):Rd (g.sealed n).S w (.map (some (g.ρ n))) (.smap kd es):=by
 have hk:a1l g.S w w:=fun _ _=>rfl
 have hs:∀b,g.S b→(g.sealed n).S b:=fun _ h=>.inl h
 obtain ⟨hn,ents,clock,h1,he,h3,h4⟩:=ho
 refine (.smap _ kd ents clock es (.inr ⟨hn,rfl⟩) h1 (by simpa using he.len) he.key h3 h4 (fun i ent kv hi hj=>?_) fun i ent kv hi hj=>?_)
 ·exact (he.rd i ent kv (by simpa using hi) hj).1.mono hk hs
 ·exact (he.rd i ent kv (by simpa using hi) hj).2.mono hk hs
theorem a9c {n z k:Nat} {kd:KD} {es:List (V×V)} (ho:OR g w n (.nmap z k kd es)):VR (g.sealed n) w (.map (some (g.ρ n))) (.nsmap z k kd es):=by
 have hk:a1l g.S w w:=fun _ _=>rfl
 have hs:∀b,g.S b→(g.sealed n).S b:=fun _ h=>.inl h
 obtain ⟨hn,ents,clock,h1,he,h3,h4,h5,_⟩:=ho
 have hrd:=a8o (g:=g) (w:=w) (n:=n) ⟨hn,ents,clock,h1,he,h3,h4⟩
 refine .nsmap _ z k kd ents clock es hrd (.inr ⟨hn,rfl⟩) h1 fun i ent kv hi hj=>?_
 obtain ⟨xs,e1,e2⟩:=h5 i ent kv hi hj
 exact ⟨xs,e1,e2.mono hk hs⟩
theorem VR.shm {n:Nat} {y:V} {v:Value} {x:V} (ho:VR (g.sealed n) w (.map (some (g.ρ n))) y) (h:VR g w v x):VR (g.sealed n) w v (V.shm n y x):=by
 have hk:a1l g.S w w:=fun _ _=>rfl
 have hs:∀b,g.S b→(g.sealed n).S b:=fun _ h=>.inl h
 have up:∀{v:Value} {x:V},VR g w v x→VR (g.sealed n) w v x:=fun h=>h.mono hk hs fun id _=>y9 g n id
 induction h with
 | @rd v x h =>
  have:V.shm n y x=x:=by
   have flat:∀{u:V} {v:Value},Rd g.S w v u→V.shm n y u=u:=by
    intro u v hy
    induction hy with
    | agg vs cs hl hr ih =>
     simp only [V.shm,a5v,V.agg.injEq]
     refine xM fun i=>?_
     rw [xK]
     cases hc:cs[i]? with
     | none=>rfl
     | some c=>simp [ih i c hc]
    | _=>rfl
   exact flat h
  rw [this];exact .rd (h.mono hk hs)
 | any v=>exact .any v
 | ptr id off=>exact up (.ptr id off)
 | eptr b o off cur e fz x hS hg hb hr=>exact up (.eptr b o off cur e fz x hS hg hb hr)
 | oslnil id k' lo h=>exact up (.oslnil id k' lo h)
 | osl id k' lo len o c h hoo hc hl hm=>exact up (.osl id k' lo len o c h hoo hc hl hm)
 | optr id k' i off=>exact up (.optr id k' i off)
 | bnil id=>exact up (.bnil id)
 | bself id=>exact up (.bself id)
 | omap id =>
  simp only [V.shm]
  cases hb:Nat.beq n id with
  | false=>exact up (.omap id)
  | true =>
   have e:=zR hb;subst e
   simpa using ho
 | at_ id b v h=>exact .at_ id b v h
 | nsl z k xs v h=>exact up (.nsl z k xs v h)
 | nsmap b z k kd ents clock es hr hS hg hn=>exact up (.nsmap b z k kd ents clock es hr hS hg hn)
 | agg vs cs hl hr ih =>
  simp only [V.shm,a5v]
  refine .agg vs _ (by simpa using hl) fun i c hc=>?_
  rw [xK] at hc
  cases hx:cs[i]? with
  | none=>rw [hx] at hc;cases hc
  | some u=>rw [hx] at hc;cases hc;exact ih i u hx
 | tup vs cs hl hr ih =>
  simp only [V.shm,a5v]
  refine .tup vs _ (by simpa using hl) fun i c hc=>?_
  rw [xK] at hc
  cases hx:cs[i]? with
  | none=>rw [hx] at hc;cases hc
  | some u=>rw [hx] at hc;cases hc;exact ih i u hx
 | fn f vs cs hl hr ih =>
  simp only [V.shm,a5v]
  refine .fn f vs _ (by simpa using hl) fun i c hc=>?_
  rw [xK] at hc
  cases hx:cs[i]? with
  | none=>rw [hx] at hc;cases hc
  | some u=>rw [hx] at hc;cases hc;exact ih i u hx
 | bnd f vs cs hl hr ih =>
  simp only [V.shm,a5v]
  refine .bnd f vs _ (by simpa using hl) fun i c hc=>?_
  rw [xK] at hc
  cases hx:cs[i]? with
  | none=>rw [hx] at hc;cases hc
  | some u=>rw [hx] at hc;cases hc;exact ih i u hx
theorem OR.shm {n m:Nat} {y:V} {o:a03} (ho:VR (g.sealed n) w (.map (some (g.ρ n))) y) (h:OR g w m o):OR (g.sealed n) w m (o.shm n y):=by
 have hk:a1l g.S w w:=fun _ _=>rfl
 have hs:∀b,g.S b→(g.sealed n).S b:=fun _ h=>.inl h
 cases o with
 | cells cs ty =>
  obtain ⟨hnil,cur,e,fz,k1,k2,k3,k4⟩:=h
  refine ⟨hnil,cur,e,fz,k1,by rw [a5v];simpa using k2,k3,fun i c hc=>?_⟩
  rw [a5v,xK] at hc
  cases hx:cs[i]? with
  | none=>rw [hx] at hc;cases hc
  | some u=>rw [hx] at hc;cases hc;exact VR.shm ho (k4 i u hx)
 | arr k' ys _=>exact h.mono hk hs (y9 g n m) (fun _=>rfl) (fun i _=>y9 g n i) (w8 _) fun _ _=>⟨rfl,fun _ _=>rfl⟩
 | map kd es=>exact h.mono hk hs (y9 g n m) (fun _=>rfl) (fun i _=>y9 g n i) (w8 _) fun _ _=>⟨rfl,fun _ _=>rfl⟩
 | iter rem cur=>exact h.mono hk hs (y9 g n m) (fun _=>rfl) (fun i _=>y9 g n i) (w8 _) fun _ _=>⟨rfl,fun _ _=>rfl⟩
 | mark=>exact h.mono hk hs (y9 g n m) (fun _=>rfl) (fun i _=>y9 g n i) (w8 _) fun _ _=>⟨rfl,fun _ _=>rfl⟩
 | nmap z k' kd es=>exact h.mono hk hs (y9 g n m) (fun _=>rfl) (fun i _=>y9 g n i) (w8 _) fun _ _=>⟨rfl,fun _ _=>rfl⟩
 | rws k' xss=>exact h.mono hk hs (y9 g n m) (fun _=>rfl) (fun i _=>y9 g n i) (w8 _) fun _ _=>⟨rfl,fun _ _=>rfl⟩
theorem Rel.shm {n:Nat} {y:V} {on:a03} (h:Rel P c g σ a w) (hf:find n σ.heap=some on) (ho:VR (g.sealed n) w (.map (some (g.ρ n))) y) :
  Rel P c (g.sealed n) ⟨c60 n y σ.env,c3n n y σ.heap⟩ a w:=by
 have cv:Cnv g (g.sealed n) σ.heap (c3n n y σ.heap):=by
  refine ⟨fun m o hm hnil=>?_,fun i j o o' hi hj hni hnj heq=>?_,rfl⟩
  ·obtain ⟨_,o1,h1,rfl⟩:=a2g hm
   exact ⟨m,o1,h1,hnil,rfl,by cases o1<;>first|exact .inl rfl|exact .inr ⟨rfl,rfl⟩⟩
  ·obtain ⟨_,o1,h1,rfl⟩:=a2g hi
   obtain ⟨_,o2,h2,rfl⟩:=a2g hj
   exact h.hp.inj i j o1 o2 h1 h2 hni hnj heq
 refine ⟨h.size,h.dfr,fun s x hx=>?_,⟨fun m o hm=>?_,fun i j o o' hi hj hni hnj heq=>?_,fun m o hm hnil hS=>?_,fun b hb=>?_,fun w2 hw2=>h.hp.tabs w2 fun b hb=>hw2 b (.inl hb),cv.sub1 h.hp fun b hb=>hb.imp id fun hb=>⟨n,_,hf,hb.1,hb.2⟩,cv.sub2 h.hp⟩,⟨h.fr.os,h.fr.tape,h.fr.output,h.fr.size,h.fr.old,fun m o hm hnil=>?_,fun b hb=>.inl (h.fr.sup b hb),fun b hb=>?_,h.fr.par,cv.own2 h.fr,h.fr.sb⟩⟩
 ·rw [b9a] at hx
  cases hy:find s σ.env with
  | none=>rw [hy] at hx;cases hx
  | some u =>
   rw [hy] at hx;cases hx
   obtain ⟨h1,h2⟩:=h.env s u hy
   exact ⟨h1,VR.shm ho h2⟩
 ·obtain ⟨_,o',h2,rfl⟩:=a2g hm
  exact OR.shm ho (h.hp.obj m o' h2)
 ·obtain ⟨_,o1,h1,rfl⟩:=a2g hi
  obtain ⟨_,o2,h2,rfl⟩:=a2g hj
  exact h.hp.inj i j o1 o2 h1 h2 hni hnj heq
 ·obtain ⟨hne,o1,h1,rfl⟩:=a2g hm
  rcases hS with hS|⟨hS1,hS2⟩
  ·exact h.hp.sep m o1 h1 hnil hS
  ·exact hne (h.hp.inj m n o1 _ h1 hf hnil hS1 hS2)
 ·rcases hb with hb|⟨h1,rfl⟩
  ·exact h.hp.lt b hb
  ·exact (h.hp.obj n _ hf).block h1
 ·obtain ⟨_,o1,h1,rfl⟩:=a2g hm
  exact h.fr.own m o1 h1 hnil
 ·rcases hb with hb|⟨h1,rfl⟩
  ·exact h.fr.sub b hb
  ·exact ⟨.inr (h.fr.own n _ hf h1).1,(h.fr.own n _ hf h1).2⟩
theorem a6p:∀cs:List V,V.unnilL cs=cs.map V.unnil
 | []=>rfl
 | x::r=>by simp [V.unnilL,a6p r]
theorem VR.unnil {v:Value} {x:V} (h:VR g w v x):VR g w v x.unnil:=by
 have rd:∀{v:Value} {x:V},Rd g.S w v x→Rd g.S w v x.unnil:=by
  intro v x h
  induction h with
  | nils=>exact .nilsl
  | agg vs cs hl hr ih =>
   simp only [V.unnil,a6p]
   refine .agg vs _ (by simpa using hl) fun i c hc=>?_
   rw [xK] at hc
   cases hx:cs[i]? with
   | none=>rw [hx] at hc;cases hc
   | some y=>rw [hx] at hc;cases hc;exact ih i y hx
  | bool b=>exact .bool b
  | int k n h=>exact .int k n h
  | str s h=>exact .str s h
  | nilsl=>exact .nilsl
  | slz a cap=>exact .slz a cap
  | nilp=>exact .nilp
  | nilm=>exact .nilm
  | nilf=>exact .nilf
  | nili=>exact .nili
  | ifcn=>exact .ifcn
  | ifcs t p=>exact .ifcs t p
  | adr b off=>exact .adr b off
  | fnc n=>exact .fnc n
  | sl g' o len cap k cur e fz xs h1 h2 h3 h4 h5 h6 h7 h8 _=>exact .sl g' o len cap k cur e fz xs h1 h2 h3 h4 h5 h6 h7 h8
  | smap b kd ents clock es h1 h2 h3 h4 h5 h6 h7 h8 _ _=>exact .smap b kd ents clock es h1 h2 h3 h4 h5 h6 h7 h8
 induction h with
 | rd h=>exact .rd (rd h)
 | agg vs cs hl hr ih =>
  simp only [V.unnil,a6p]
  refine .agg vs _ (by simpa using hl) fun i c hc=>?_
  rw [xK] at hc
  cases hx:cs[i]? with
  | none=>rw [hx] at hc;cases hc
  | some y=>rw [hx] at hc;cases hc;exact ih i y hx
 | at_ id b v h=>exact .at_ id b v h
 | any v=>exact .any v
 | ptr id off=>exact .ptr id off
 | eptr b o off cur e fz x hS hg hb hr=>exact .eptr b o off cur e fz x hS hg hb hr
 | oslnil id k lo h=>exact .oslnil id k lo h
 | osl id k lo len o c h1 h2 h3 h4 h5=>exact .osl id k lo len o c h1 h2 h3 h4 h5
 | optr id k i off=>exact .optr id k i off
 | omap id=>exact .omap id
 | bnil id=>exact .bnil id
 | bself id=>exact .bself id
 | nsl z k xs v h=>exact .nsl z k xs v h
 | nsmap b z k kd ents clock es hr hS hg hn=>exact .nsmap b z k kd ents clock es hr hS hg hn
 | tup vs cs hl hr _=>exact .tup vs cs hl hr
 | fn f vs cs hl hr _=>exact .fn f vs cs hl hr
 | bnd f vs cs hl hr _=>exact .bnd f vs cs hl hr
theorem Rel.accC {id off id2 k:Nat} {ty:Option TypeId} {cs:List V} {t:Option TypeId} (h:Rel P c g σ a w) (hf:find id σ.heap=some (.cells cs t)) (hn:cs[off]?=some .nils) (hcl:Clean c σ id2) (hne:id≠id2) :
  Rel P c (g.setNil id2) ⟨σ.env,Go.Ab.put id (.cells (cs.set off (.osl id2 k 0 0)) t) (Go.Ab.put id2 (.arr k [] ty) σ.heap)⟩ a w:=by
 have hk:a1l g.S w w:=fun _ _=>rfl
 have hag:∀i,i≠id2→g.agree (g.setNil id2) i:=fun i hi=>Gh.setNil_agree hi
 have hO:=h.hp.obj id _ hf
 have hO2:OR (g.setNil id2) w id (.cells cs t):=hO.mono hk (fun _ h=>h) (hag id hne) (fun _=>rfl) (fun n hn'=>hag n fun e=>by
  rw [e,a2r hcl.2.2 hf] at hn';cases hn') (w8 _) fun _ h=>by cases h
 have hnil:¬(g.setNil id2).nil id:=hO2.1
 have hst:q9 g σ.heap w ⟨.any,[],[(id2,.arr k [] ty),(id,.cells (cs.set off (.osl id2 k 0 0)) t)]⟩ (g.setNil id2) w:=by
  refine ⟨rfl,rfl,rfl,w8 _,fun _ _ _=>rfl,fun _ h=>h,fun b hb=>.inl hb,h.hp.lt,fun i hi=>hag i fun e=>hi (.arr k [] ty) (by simp [e]),?_,?_,?_,?_,fun _ _ _=>rfl,a2z.no (by simp [a03.isRws])⟩
  ·intro i o ho
   simp at ho
   rcases ho with ⟨rfl,rfl⟩|⟨rfl,rfl⟩
   ·exact .inl ⟨.inl rfl,rfl⟩
   ·obtain ⟨h1,cur,e,fz,h2,h3,h4,h5⟩:=hO2
    refine ⟨h1,cur,e,fz,h2,by simpa using h3,h4,fun j x hj=>?_⟩
    rw [xJ] at hj
    by_cases e1:off=j
    ·subst e1
     have hlt:off<cs.length:=(zG.1 hn).1
     simp [hlt] at hj;subst hj
     have:=h5 off _ hn
     rw [this.nils_inv];exact .oslnil id2 k 0 (.inl rfl)
    ·rw [if_neg e1] at hj;exact h5 j x hj
  ·intro i o ho hni
   simp at ho
   rcases ho with ⟨rfl,rfl⟩|⟨rfl,rfl⟩
   ·exact absurd (.inl rfl) hni
   ·obtain ⟨e1,_,_,e4⟩:=hag i hne
    exact .inr ⟨i,_,by simp [Eff.ids],hf,fun h=>hni (e4.2 h),.inl e1.symm⟩
  ·intro i j o o' hi hj hni hnj _
   simp at hi hj
   rcases hi with ⟨rfl,rfl⟩|⟨rfl,rfl⟩
   ·exact absurd (.inl rfl) hni
   ·rcases hj with ⟨rfl,rfl⟩|⟨rfl,rfl⟩
    ·exact absurd (.inl rfl) hnj
    ·rfl
  ·intro i o ho hni hS
   simp at ho
   rcases ho with ⟨rfl,rfl⟩|⟨rfl,rfl⟩
   ·exact hni (.inl rfl)
   ·obtain ⟨e1,_,_,e4⟩:=hag i hne
    rw [e1] at hS
    exact h.hp.sep i _ hf (fun h=>hni (e4.2 h)) hS
 have hfr:a0l c.H0 g (g.setNil id2) σ ⟨.any,[],[(id2,.arr k [] ty),(id,.cells (cs.set off (.osl id2 k 0 0)) t)]⟩:=by
  intro i o ho
  simp at ho
  rcases ho with ⟨rfl,rfl⟩|⟨rfl,rfl⟩
  ·exact .inr ⟨hcl.1,fun s x hx=>a2v hcl.2.1 hx,fun n o' hn' _=>a2r hcl.2.2 hn'⟩
  ·exact .inl (hag i hne)
 exact h.step (d:=none) (v:=undef) (fun n hn=>by cases hn) hst hfr (.any _)
theorem a7f (n:Nat) (x:a03) (l:Heap):find n (Go.Ab.put n x l)=some x:=by rw [a0i,if_pos rfl]
theorem b2c.rd {S:Nat→Prop} {k:Nat} {s:Option (Nat×Nat)} {v:Value} {xs:List V} (h:b2c S w k s v xs) (hh:a2w xs=false) (hs:∀b c,s=some (b,c)→S b):Rd S w v (.sl xs):=by
 cases s with
 | none =>
  rcases h with ⟨rfl,rfl⟩|h
  ·exact .nilsl
  ·rw [hh] at h;cases h
 | some p =>
  obtain ⟨b,cc⟩:=p
  obtain ⟨o,base,cap,rfl,h0,h2,h4,h3,⟨h7,⟨cur,e,fz,h8,h9,h10,h11⟩,h12,h13,h14⟩⟩:=h
  refine .sl b o xs.length cc k cur e fz xs (hs b cc rfl) h8 rfl (wV h2 h4) h2 ?_ h14 fun i j x y hx hy=>?_
  ·rcases h0 with h0|h0
   ·exact .inl (by omega)
   ·refine .inr ?_
    rw [h0,h9,←vA];exact zX k (by omega)
  ·have hi:=(zG.1 hx).1
   have:=h11 i j x y hx hy
   rw [h0.resolve_left (by omega)]
   rwa [vA] at this
theorem Rel.rsa {id k:Nat} {xss:List (List V)} (h:Rel P c g σ a w) (hf:find id σ.heap=some (.rws k xss)) (hx:xss.all (fun xs=>!a2w xs)=true) :
  ∃g',Rel P c g' ⟨σ.env,Go.Ab.put id (.arr 1 (xss.map V.sl)) σ.heap⟩ a w:=by
 have key:∀m o,find m (Go.Ab.put id (.arr 1 (xss.map V.sl)) σ.heap)=some o→(m=id∧o=.arr 1 (xss.map V.sl))∨(m≠id∧find m σ.heap=some o):=fun m o hm=>by
  rw [a0i] at hm
  by_cases e:m=id
  ·rw [if_pos e] at hm;cases hm;exact .inl ⟨e,rfl⟩
  ·rw [if_neg e] at hm;exact .inr ⟨e,hm⟩
 have dom:∀m o,find m (Go.Ab.put id (.arr 1 (xss.map V.sl)) σ.heap)=some o→∃o',find m σ.heap=some o':=fun m o hm=>by
  rcases key m o hm with ⟨rfl,_⟩|⟨_,h1⟩
  ·exact ⟨_,hf⟩
  ·exact ⟨_,h1⟩
 obtain ⟨g',hg'⟩:∃g':Gh,g'={ g with S:=fun b=>g.S b∨(¬g.nil id∧a4i g id (.rws k xss) b) }:=⟨_,rfl⟩
 have e2:g'.ρ=g.ρ:=by rw [hg']
 have e5:g'.nil=g.nil:=by rw [hg']
 have e7:g'.sub=g.sub:=by rw [hg']
 have up:∀b,g.S b→g'.S b:=fun b hb=>by rw [hg'];exact .inl hb
 have un:∀b,g'.S b→g.S b∨(¬g.nil id∧a4i g id (.rws k xss) b):=fun b hb=>by rw [hg'] at hb;exact hb
 have ag:∀i,g.agree g' i:=fun i=>by rw [hg'];exact ⟨rfl,rfl,rfl,vF⟩
 have toB:∀{m o b},find m (Go.Ab.put id (.arr 1 (xss.map V.sl)) σ.heap)=some o→¬g'.nil m→a4i g' m o b→m≠id∧find m σ.heap=some o∧¬g.nil m∧a4i g m o b:=by
  intro m o b hm hn ⟨k2,yss,j,cc,eo,hj,hs⟩
  rw [e5] at hn
  rw [e2,e7] at hs
  rcases key m o hm with ⟨_,r⟩|⟨hne,hm'⟩
  ·rw [eo] at r;cases r
  ·exact ⟨hne,hm',hn,k2,yss,j,cc,eo,hj,hs⟩
 refine ⟨g',h.size,h.dfr,fun s x hs=>⟨(h.env s x hs).1,(h.env s x hs).2.mono (fun _ _=>rfl) up fun i _=>ag i⟩,
  ⟨fun m o hm=>?_,fun i j o o' hi hj hni hnj he=>?_,fun m o hm hn hS=>?_,fun b hb=>?_,fun w2 hw2=>h.hp.tabs w2 fun b hb=>hw2 b (up b hb),fun z o b hz hn hs=>?_,fun i k1 xs1 j c1 i' k2 xs2 j' c2 b hi hi' hn hn' hj hj' he he'=>?_⟩,
  ⟨h.fr.os,h.fr.tape,h.fr.output,h.fr.size,h.fr.old,fun m o hm hn=>?_,fun b hb=>up b (h.fr.sup b hb),fun b hb=>?_,fun m o hm=>(h.fr.par m o hm).trans (ag m),fun m o b hm hn hs=>?_,fun b hb hM=>by rw [e7];exact h.fr.sb b hb hM⟩⟩
 ·rcases key m o hm with ⟨rfl,rfl⟩|⟨hne,hm'⟩
  ·rcases h.hp.obj m _ hf with ⟨h1,h2⟩|⟨h1,⟨⟨cur,te,fz,p2,p3,p4,p5⟩,p6,p7⟩⟩
   ·exact .inl ⟨by rw [e5];exact h1,by simp [h2]⟩
   ·refine .inr ⟨by rw [e5];exact h1,?_⟩
    rw [(ag m).1,(ag m).2.1,(ag m).2.2.1]
    refine ⟨Nat.one_pos,⟨cur,te,fz,p2,by rw [p3];simp,⟨p4,trivial⟩,fun i j x y hi hj=>?_⟩,by simpa using p6,p7,fun x hxm=>?_⟩
    ·rw [xK] at hi
     cases hx2:xss[i]? with
     | none=>rw [hx2] at hi;cases hi
     | some ys =>
      rw [hx2] at hi;cases hi
      cases j with
      | succ j=>simp [V.cells] at hj
      | zero =>
       simp [V.cells] at hj;subst hj
       have hh:a2w ys=false:=by
        have:=xX.1 hx ys (zZ hx2)
        simpa using this
       have hlt:=(zG.1 hx2).1
       rw [Nat.mul_one,wY]
       exact ((p5 i ys hx2).mono (fun _ _=>rfl) up fun _ _ _=>rfl).rd hh fun b cc hs=>by rw [hg'];exact .inr ⟨h1,k,xss,i,cc,rfl,hlt,hs⟩
    ·obtain ⟨ys,_,rfl⟩:=wZ.1 hxm
     exact ⟨rfl,fun y hy=>by simp [V.cells] at hy;subst hy;rfl,rfl⟩
  ·exact (h.hp.obj m o hm').mono (fun _ _=>rfl) up (ag m) (fun _=>rfl) (fun n _=>ag n) (w8 _) fun _ _=>⟨by rw [e7],fun _ _=>rfl⟩
 ·obtain ⟨o1,h1⟩:=dom i o hi
  obtain ⟨o2,h2⟩:=dom j o' hj
  rw [e5] at hni hnj;rw [e2] at he
  exact h.hp.inj i j o1 o2 h1 h2 hni hnj he
 ·obtain ⟨o1,h1⟩:=dom m o hm
  rw [e5] at hn;rw [e2] at hS
  rcases un _ hS with hS|⟨q1,q2⟩
  ·exact h.hp.sep m o1 h1 hn hS
  ·exact (h.hp.sub1 id _ _ hf q1 q2).2 m o1 h1 hn rfl
 ·rcases un b hb with hb|⟨q1,q2⟩
  ·exact h.hp.lt b hb
  ·exact (h.hp.obj id _ hf).subBlock q1 q2
 ·obtain ⟨q0,q2,q3,q4⟩:=toB hz hn hs
  obtain ⟨r1,r2⟩:=h.hp.sub1 z o b q2 q3 q4
  refine ⟨fun hb=>?_,fun i o' hi hni=>?_⟩
  ·rcases un b hb with hb|⟨p1,p2⟩
   ·exact r1 hb
   ·exact q0 (h.hp.ow q2 hf q3 p1 (.inr q4) (.inr p2))
  ·obtain ⟨o2,h2⟩:=dom i o' hi
   rw [e2];exact r2 i o2 h2 (by rw [←e5];exact hni)
 ·obtain ⟨p1,p2,p3,_⟩:=toB (b:=b) hi hn ⟨k1,xs1,j,c1,rfl,hj,he⟩
  obtain ⟨p1',p2',p3',_⟩:=toB (b:=b) hi' hn' ⟨k2,xs2,j',c2,rfl,hj',he'⟩
  rw [e2,e7] at he he'
  exact h.hp.sub2 i k1 xs1 j c1 i' k2 xs2 j' c2 b p2 p2' p3 p3' hj hj' he he'
 ·obtain ⟨o1,h1⟩:=dom m o hm
  rw [e2];exact h.fr.own m o1 h1 (by rw [←e5];exact hn)
 ·rcases un b hb with hb|⟨q1,q2⟩
  ·exact h.fr.sub b hb
  ·obtain ⟨r1,r2⟩:=h.fr.own2 id _ b hf q1 q2
   exact ⟨.inr r1,r2⟩
 ·obtain ⟨_,q2,q3,q4⟩:=toB hm hn hs
  exact h.fr.own2 m o b q2 q3 q4
theorem a3w:∀{l:List Nat} {K:St→Prop} {g:Gh} {σ:St},d0c l σ K→Rel P c g σ a w→∃g' σ',K σ'∧Rel P c g' σ' a w
 | [],K,g,σ,h,hR=>⟨g,σ,h,hR⟩
 | id::r,K,g,σ,h,hR=>by
  simp only [d0c,f0d] at h
  split at h
  ·rename_i k xs ty hf
   exact a3w h.2.2 (hR.shut hf h.1 h.2.1)
  ·rename_i kd es hf
   exact a3w h (hR.shm hf (.rd (a8o (hR.hp.obj _ _ hf))))
  ·rename_i z k kd es hf
   exact a3w h (hR.shm hf (a9c (hR.hp.obj _ _ hf)))
  ·rename_i k xss hf
   obtain ⟨g',hr⟩:=hR.rsa hf h.1
   exact a3w h.2.2.2 (hr.shut (a7f _ _ _) h.2.1 h.2.2.1)
  ·exact a3w h hR
  ·exact h.elim
theorem Rel.putv {s:Nat} {x y:V} (hR:Rel P c g σ a w) (hx:find s σ.env=some x) (hv:VR g w (a.tmps.getD s undef) y):Rel P c g ⟨Go.Ab.put s y σ.env,σ.heap⟩ a w:=by
 refine ⟨hR.size,hR.dfr,fun n z hn=>?_,hR.hp,hR.fr⟩
 rw [a0i] at hn
 split at hn
 ·rename_i e;cases hn;rw [e];exact ⟨(hR.env s _ hx).1,hv⟩
 ·exact hR.env n z hn
theorem VR.at_inv {v:Value} {id b:Nat} (h:VR g w v (.at_ id b)):g.ρ id=b:=by
 cases h with
 | rd h=>cases h
 | at_ _ _ _ h=>exact h
theorem VR.adr_inv {v:Value} {b off:Nat} (h:VR g w v (.adr b off)):v=.pointer (some ⟨b,off,none⟩):=by
 cases h with|rd h=>cases h;rfl
theorem Rel.nl {s:Nat} {x:V} (hR:Rel P c g σ a w) (hx:find s σ.env=some x):Rel P c g ⟨Go.Ab.put s x.unnil σ.env,σ.heap⟩ a w:=by
 refine ⟨hR.size,hR.dfr,fun t y hy=>?_,hR.hp,hR.fr⟩
 simp only [a0i] at hy
 obtain ⟨h1,h2⟩:=hR.env s x hx
 by_cases e:t=s
 ·subst e;simp at hy;subst hy;exact ⟨h1,h2.unnil⟩
 ·simp only [e,if_false] at hy;exact hR.env t y hy
def Gh.trim (g:Gh) (n lo:Nat):Gh:={ g with base:=fun i=>if i=n then g.base i+lo else g.base i,cap:=fun i=>if i=n then g.cap i - lo else g.cap i }
theorem c3h {g:Gh} {n lo i:Nat} (h:i≠n):g.agree (g.trim n lo) i:=by simp [Gh.agree,Gh.trim,h]
theorem a7r (n lo len:Nat):∀cs:List V,V.trL n lo len cs=cs.map (V.tr n lo len)
 | []=>rfl
 | x::r=>by simp [V.trL,a7r n lo len r]
theorem c2s (n lo len s:Nat):∀env:List (Nat×V),find s (trE n lo len env)=(find s env).map (V.tr n lo len)
 | []=>rfl
 | (m,x)::r=>by
  simp only [trE,find]
  cases Nat.beq s m with
  | true=>rfl
  | false=>exact c2s n lo len s r
theorem c2r (n lo len s:Nat):∀H:Heap,find s (trH n lo len H)=(find s H).map (a03.tr n lo len)
 | []=>rfl
 | (m,x)::r=>by
  simp only [trH,find]
  cases Nat.beq s m with
  | true=>rfl
  | false=>exact c2r n lo len s r
theorem c9m {n m:Nat} (h:n≠m):Nat.beq n m=false:=by
 cases hb:Nat.beq n m with
 | true=>exact absurd (zR hb) h
 | false=>rfl
theorem Rd.tr {S:Nat→Prop} {v:Value} {x:V} {n lo len:Nat} (h:Rd S w v x):x.tr n lo len=x:=by
 induction h with
 | agg vs cs hl hr ih =>
  simp only [V.tr,a7r,V.agg.injEq]
  refine xM fun i=>?_
  rw [xK]
  cases hc:cs[i]? with
  | none=>rfl
  | some c=>simp [ih i c hc]
 | _=>rfl
theorem VR.tr {n lo len:Nat} {v:Value} {x:V} (h:VR g w v x):VR (g.trim n lo) w v (x.tr n lo len):=by
 induction h with
 | rd h=>rw [h.tr];exact .rd h
 | any v=>exact .any v
 | ptr id off =>
  simp only [V.tr]
  by_cases e:id=n
  ·subst e;simp only [wW,vE];exact .any _
  ·simp only [c9m e,vC];exact .ptr (g:=g.trim n lo) id off
 | eptr b o off cur e fz x hS hg hb hr=>exact .eptr b o off cur e fz x hS hg hb hr
 | oslnil id k l h =>
  simp only [V.tr]
  by_cases e:id=n
  ·subst e
   simp only [wW,vE]
   cases Nat.beq l lo&&Nat.beq 0 len with
   | true=>exact .oslnil (g:=g.trim id lo) id k 0 h
   | false=>exact .any _
  ·simp only [c9m e,vC];exact .oslnil (g:=g.trim n lo) id k l h
 | osl id k l m o cc h1 h2 h3 h4 h5 =>
  simp only [V.tr]
  by_cases e:id=n
  ·subst e
   simp only [wW,vE]
   cases hb:Nat.beq l lo&&Nat.beq m len with
   | true =>
    simp only [xY] at hb
    have:=zR hb.1;subst this
    exact .osl (g:=g.trim id l) id k 0 m o cc h1 (by simpa [Gh.trim] using h2) (by simp [Gh.trim];omega) h4 h5
   | false=>exact .any _
  ·simp only [c9m e,vC]
   exact .osl (g:=g.trim n lo) id k l m o cc h1 (by simpa [Gh.trim,e] using h2) (by simpa [Gh.trim,e] using h3) h4 h5
 | optr id k i off =>
  simp only [V.tr]
  by_cases e:id=n
  ·subst e;simp only [wW,vE];exact .any _
  ·simp only [c9m e,vC]
   have:=VR.optr (g:=g.trim n lo) (w:=w) id k i off
   simpa [Gh.trim,e] using this
 | omap id =>
  simp only [V.tr]
  by_cases e:id=n
  ·subst e;simp only [wW,vE];exact .any _
  ·simp only [c9m e,vC];exact .omap (g:=g.trim n lo) id
 | bnil id =>
  simp only [V.tr]
  by_cases e:id=n
  ·subst e;simp only [wW,vE];exact .any _
  ·simp only [c9m e,vC];exact .bnil id
 | bself id =>
  simp only [V.tr]
  by_cases e:id=n
  ·subst e;simp only [wW,vE];exact .any _
  ·simp only [c9m e,vC];exact .bself (g:=g.trim n lo) id
 | at_ id b v h=>exact .at_ id b v h
 | nsl z k xs v h =>
  simp only [V.tr]
  by_cases e:z=n
  ·subst e;simp only [wW,vE];exact .any _
  ·simp only [c9m e,vC]
   have:(g.trim n lo).base z=g.base z:=by simp [Gh.trim,e]
   exact .nsl z k xs v (by rw [this];exact h)
 | nsmap b z k kd ents clock es hr hS hg hn =>
  simp only [V.tr]
  by_cases e:z=n
  ·subst e;simp only [wW,vE];exact .any _
  ·simp only [c9m e,vC]
   have:(g.trim n lo).base z=g.base z:=by simp [Gh.trim,e]
   exact .nsmap b z k kd ents clock es hr hS hg fun i ent kv a1 a2=>by rw [this];exact hn i ent kv a1 a2
 | agg vs cs hl hr ih =>
  simp only [V.tr,a7r]
  refine .agg vs _ (by simpa using hl) fun i c hc=>?_
  rw [xK] at hc
  cases hx:cs[i]? with
  | none=>rw [hx] at hc;cases hc
  | some y=>rw [hx] at hc;cases hc;exact ih i y hx
 | tup vs cs hl hr ih =>
  simp only [V.tr,a7r]
  refine .tup vs _ (by simpa using hl) fun i c hc=>?_
  rw [xK] at hc
  cases hx:cs[i]? with
  | none=>rw [hx] at hc;cases hc
  | some y=>rw [hx] at hc;cases hc;exact ih i y hx
 | fn f vs cs hl hr ih =>
  simp only [V.tr,a7r]
  refine .fn f vs _ (by simpa using hl) fun i c hc=>?_
  rw [xK] at hc
  cases hx:cs[i]? with
  | none=>rw [hx] at hc;cases hc
  | some y=>rw [hx] at hc;cases hc;exact ih i y hx
 | bnd f vs cs hl hr ih =>
  simp only [V.tr,a7r]
  refine .bnd f vs _ (by simpa using hl) fun i c hc=>?_
  rw [xK] at hc
  cases hx:cs[i]? with
  | none=>rw [hx] at hc;cases hc
  | some y=>rw [hx] at hc;cases hc;exact ih i y hx
theorem OR.tr {n lo len m:Nat} {o:a03} (h:OR g w m o) (hm:m≠n):OR (g.trim n lo) w m (o.tr n lo len):=by
 cases o with
 | cells cs t =>
  obtain ⟨h1,cur,e,fz,h2,h3,h4,h5⟩:=h
  refine ⟨h1,cur,e,fz,h2,by rw [a7r];simpa using h3,h4,fun i x hx=>?_⟩
  rw [a7r,xK] at hx
  cases hy:cs[i]? with
  | none=>rw [hy] at hx;cases hx
  | some y=>rw [hy] at hx;cases hx;exact (h5 i y hy).tr
 | arr k xs t =>
  rcases h with ⟨h1,h2⟩|⟨h1,h2⟩
  ·exact .inl ⟨h1,h2⟩
  ·refine .inr ⟨h1,?_⟩
   have e1:(g.trim n lo).base m=g.base m:=by simp [Gh.trim,hm]
   have e2:(g.trim n lo).cap m=g.cap m:=by simp [Gh.trim,hm]
   rw [e1,e2];exact h2
 | map kd es=>exact h
 | iter rem cur=>exact h
 | rws k xss =>
  rcases h with ⟨h1,h2⟩|⟨h1,h2⟩
  ·exact .inl ⟨h1,h2⟩
  ·refine .inr ⟨h1,?_⟩
   have e1:(g.trim n lo).base m=g.base m:=by simp [Gh.trim,hm]
   have e2:(g.trim n lo).cap m=g.cap m:=by simp [Gh.trim,hm]
   rw [e1,e2];exact h2
 | mark =>
  have e1:(g.trim n lo).base m=g.base m:=by simp [Gh.trim,hm]
  exact ⟨h.1,fun b hb=>h.2 b (by rw [←e1];exact hb)⟩
 | nmap z k kd es =>
  obtain ⟨hnil,ents,clock,k1,k2,k3,k4,k5,k6⟩:=h
  by_cases e:z=n
  ·subst e;simp only [a03.tr,wW,vE];exact ⟨hnil,ents,clock,k1,k2,k3,k4⟩
  ·simp only [a03.tr,c9m e,vC]
   have:(g.trim n lo).base z=g.base z:=by simp [Gh.trim,e]
   exact ⟨hnil,ents,clock,k1,k2,k3,k4,fun i ent kv a1 a2=>by rw [this];exact k5 i ent kv a1 a2,fun b hb=>k6 b (by rw [←this];exact hb)⟩
theorem OR.trim {n lo len k:Nat} {xs:List V} {t:Option TypeId} {v:Value} (h:OR g w n (.arr k xs t)) (hv:VR g w v (.osl n k lo len)):OR (g.trim n lo) w n (.arr k ((xs.drop lo).take len) t):=by
 rcases h with ⟨h1,h2⟩|⟨h1,h2⟩
 ·exact .inl ⟨h1,by simp [h2]⟩
 ·refine .inr ⟨h1,?_⟩
  rcases hv.osl_inv with ⟨h3,_⟩|⟨_,o,cc,_,_,hcap,hlc,_⟩
  ·exact absurd h3 h1
  obtain ⟨kpos,⟨cur,e,fz,r1,r2,r3,r4⟩,hlen,hbig,helem⟩:=h2
  have e1:(g.trim n lo).base n=g.base n+lo:=by simp [Gh.trim]
  have e2:(g.trim n lo).cap n=g.cap n - lo:=by simp [Gh.trim]
  rw [e1,e2]
  refine ⟨kpos,⟨cur,e,fz,r1,?_,r3,fun i j x c hx hc=>?_⟩,?_,by omega,fun x hx=>helem x (zY (List.mem_of_mem_take hx))⟩
  ·rw [r2];congr 1;omega
  ·have hi:i<len:=by
    have:=(zG.1 hx).1
    simp at this;omega
   rw [xC,if_pos hi,xD] at hx
   have:=r4 (lo+i) j x c hx hc
   rw [show g.base n+lo+i=g.base n+(lo+i) by omega];exact this
  ·simp;omega
theorem Rel.trim {n lo len k s:Nat} {xs:List V} {t:Option TypeId} (h:Rel P c g σ a w) (hs:find s σ.env=some (.osl n k lo len)) (hf:find n σ.heap=some (.arr k xs t)) (h0:find n c.H0=none) :
  Rel P c (g.trim n lo) ⟨trE n lo len σ.env,Go.Ab.put n (.arr k ((xs.drop lo).take len) t) (trH n lo len σ.heap)⟩ a w:=by
 have key:∀m o,find m (Go.Ab.put n (.arr k ((xs.drop lo).take len) t) (trH n lo len σ.heap))=some o→(∃o',find m σ.heap=some o'∧Alk o o')∧OR (g.trim n lo) w m o:=fun m o hm=>by
  rw [a0i] at hm
  by_cases e:m=n
  ·subst e
   simp at hm;subst hm
   exact ⟨⟨_,hf,.inr ⟨rfl,rfl⟩⟩,(h.hp.obj m _ hf).trim (h.env s _ hs).2⟩
  ·simp only [e,if_false,c2r] at hm
   cases hy:find m σ.heap with
   | none=>rw [hy] at hm;cases hm
   | some y=>rw [hy] at hm;cases hm;exact ⟨⟨_,rfl,by cases y<;>first|exact .inl rfl|exact .inr ⟨rfl,rfl⟩|(simp only [a03.tr];cases Nat.beq _ n<;>exact .inr ⟨rfl,rfl⟩)⟩,(h.hp.obj m _ hy).tr e⟩
 have cv:Cnv g (g.trim n lo) σ.heap (Go.Ab.put n (.arr k ((xs.drop lo).take len) t) (trH n lo len σ.heap)) :=
  ⟨fun m o hm hnil=>by obtain ⟨o1,h1,ha⟩:=(key m o hm).1;exact ⟨m,o1,h1,hnil,rfl,ha⟩,fun i j o o' hi hj hni hnj he=>by
   obtain ⟨o1,h1,_⟩:=(key i o hi).1
   obtain ⟨o2,h2,_⟩:=(key j o' hj).1
   exact h.hp.inj i j o1 o2 h1 h2 hni hnj he,rfl⟩
 refine ⟨h.size,h.dfr,fun s x hx=>?_,⟨fun m o hm=>(key m o hm).2,fun i j o o' hi hj hni hnj he=>?_,fun m o hm hnil hS=>?_,h.hp.lt,h.hp.tabs,cv.sub1 h.hp fun b hb=>.inl hb,cv.sub2 h.hp⟩,⟨h.fr.os,h.fr.tape,h.fr.output,h.fr.size,h.fr.old,fun m o hm hnil=>?_,h.fr.sup,h.fr.sub,fun m o hm=>(h.fr.par m o hm).trans (c3h fun e=>?_),cv.own2 h.fr,h.fr.sb⟩⟩
 ·rw [c2s] at hx
  cases hy:find s σ.env with
  | none=>rw [hy] at hx;cases hx
  | some y=>rw [hy] at hx;cases hx;exact ⟨(h.env s y hy).1,(h.env s y hy).2.tr⟩
 ·obtain ⟨o1,h1,_⟩:=(key i o hi).1
  obtain ⟨o2,h2,_⟩:=(key j o' hj).1
  exact h.hp.inj i j o1 o2 h1 h2 hni hnj he
 ·obtain ⟨o1,h1,_⟩:=(key m o hm).1
  exact h.hp.sep m o1 h1 hnil hS
 ·obtain ⟨o1,h1,_⟩:=(key m o hm).1
  exact h.fr.own m o1 h1 hnil
 ·rw [e,h0] at hm;cases hm
theorem Rel.nlc {id:Nat} {cs:List V} {t:Option TypeId} (h:Rel P c g σ a w) (hf:find id σ.heap=some (.cells cs t)):Rel P c g ⟨σ.env,Go.Ab.put id (.cells (V.unnilL cs) t) σ.heap⟩ a w:=by
 have key:∀m o,find m (Go.Ab.put id (.cells (V.unnilL cs) t) σ.heap)=some o→(∃o',find m σ.heap=some o'∧Alk o o')∧OR g w m o:=fun m o hm=>by
  rw [a0i] at hm
  by_cases e:m=id
  ·subst e
   simp at hm;subst hm
   refine ⟨⟨_,hf,.inr ⟨rfl,rfl⟩⟩,?_⟩
   obtain ⟨h1,cur,e,fz,h2,h3,h4,h5⟩:=h.hp.obj m _ hf
   refine ⟨h1,cur,e,fz,h2,by rw [a6p];simpa using h3,h4,fun i x hx=>?_⟩
   rw [a6p,xK] at hx
   cases hy:cs[i]? with
   | none=>rw [hy] at hx;cases hx
   | some y=>rw [hy] at hx;cases hx;exact (h5 i y hy).unnil
  ·simp only [e,if_false] at hm
   exact ⟨⟨_,hm,.inl rfl⟩,h.hp.obj m _ hm⟩
 have cv:Cnv g (g) σ.heap (Go.Ab.put id (.cells (V.unnilL cs) t) σ.heap) :=
  ⟨fun m o hm hnil=>by obtain ⟨o1,h1,ha⟩:=(key m o hm).1;exact ⟨m,o1,h1,hnil,rfl,ha⟩,fun i j o o' hi hj hni hnj he=>by
   obtain ⟨o1,h1,_⟩:=(key i o hi).1
   obtain ⟨o2,h2,_⟩:=(key j o' hj).1
   exact h.hp.inj i j o1 o2 h1 h2 hni hnj he,rfl⟩
 refine ⟨h.size,h.dfr,h.env,⟨fun m o hm=>(key m o hm).2,fun i j o o' hi hj hni hnj he=>?_,fun m o hm hnil hS=>?_,h.hp.lt,h.hp.tabs,cv.sub1 h.hp fun b hb=>.inl hb,cv.sub2 h.hp⟩,⟨h.fr.os,h.fr.tape,h.fr.output,h.fr.size,h.fr.old,fun m o hm hnil=>?_,h.fr.sup,h.fr.sub,h.fr.par,cv.own2 h.fr,h.fr.sb⟩⟩
 ·obtain ⟨o1,h1,_⟩:=(key i o hi).1
  obtain ⟨o2,h2,_⟩:=(key j o' hj).1
  exact h.hp.inj i j o1 o2 h1 h2 hni hnj he
 ·obtain ⟨o1,h1,_⟩:=(key m o hm).1
  exact h.hp.sep m o1 h1 hnil hS
 ·obtain ⟨o1,h1,_⟩:=(key m o hm).1
  exact h.fr.own m o1 h1 hnil
theorem e6r {g:Gh} {w:World} {id:Nat} {x:V} {v:Value} (hx:x.isB id=true) (h:VR g w v x):VR g w v (.bptr id):=by
 unfold V.isB at hx
 split at hx
 ·rw [show v=.pointer none by cases h with|rd h=>cases h;rfl];exact .bnil id
 ·simp only [xY] at hx
  have e1:=zR hx.1
  have e2:=zR hx.2
  subst e1 e2
  rw [h.ptr_inv];exact .bself _
 ·have:=zR hx;subst this;exact h
 ·cases hx
theorem Rel.bld {id:Nat} {x:V} {cs:List V} {t:Option TypeId} (h:Rel P c g σ a w) (hf:find id σ.heap=some (.cells (x::cs) t)) (hx:x.isB id=true):Rel P c g ⟨σ.env,Go.Ab.put id (.cells (.bptr id::cs) t) σ.heap⟩ a w:=by
 have key:∀m o,find m (Go.Ab.put id (.cells (.bptr id::cs) t) σ.heap)=some o→(∃o',find m σ.heap=some o'∧Alk o o')∧OR g w m o:=fun m o hm=>by
  rw [a0i] at hm
  by_cases e:m=id
  ·subst e
   simp at hm;subst hm
   refine ⟨⟨_,hf,.inr ⟨rfl,rfl⟩⟩,?_⟩
   obtain ⟨h1,cur,e,fz,h2,h3,h4,h5⟩:=h.hp.obj m _ hf
   refine ⟨h1,cur,e,fz,h2,by simpa using h3,h4,fun i y hy=>?_⟩
   cases i with
   | zero=>simp at hy;subst hy;exact e6r hx (h5 0 x rfl)
   | succ i=>exact h5 (i+1) y (by simpa using hy)
  ·simp only [e,if_false] at hm
   exact ⟨⟨_,hm,.inl rfl⟩,h.hp.obj m _ hm⟩
 have cv:Cnv g (g) σ.heap (Go.Ab.put id (.cells (.bptr id::cs) t) σ.heap) :=
  ⟨fun m o hm hnil=>by obtain ⟨o1,h1,ha⟩:=(key m o hm).1;exact ⟨m,o1,h1,hnil,rfl,ha⟩,fun i j o o' hi hj hni hnj he=>by
   obtain ⟨o1,h1,_⟩:=(key i o hi).1
   obtain ⟨o2,h2,_⟩:=(key j o' hj).1
   exact h.hp.inj i j o1 o2 h1 h2 hni hnj he,rfl⟩
 refine ⟨h.size,h.dfr,h.env,⟨fun m o hm=>(key m o hm).2,fun i j o o' hi hj hni hnj he=>?_,fun m o hm hnil hS=>?_,h.hp.lt,h.hp.tabs,cv.sub1 h.hp fun b hb=>.inl hb,cv.sub2 h.hp⟩,⟨h.fr.os,h.fr.tape,h.fr.output,h.fr.size,h.fr.old,fun m o hm hnil=>?_,h.fr.sup,h.fr.sub,h.fr.par,cv.own2 h.fr,h.fr.sb⟩⟩
 ·obtain ⟨o1,h1,_⟩:=(key i o hi).1
  obtain ⟨o2,h2,_⟩:=(key j o' hj).1
  exact h.hp.inj i j o1 o2 h1 h2 hni hnj he
 ·obtain ⟨o1,h1,_⟩:=(key m o hm).1
  exact h.hp.sep m o1 h1 hnil hS
 ·obtain ⟨o1,h1,_⟩:=(key m o hm).1
  exact h.fr.own m o1 h1 hnil
theorem b6o:∀{x:V},x.isNils=true→x=.nils
 | .nils,_=>rfl
theorem Rel.nm {id z k:Nat} {kd:KD} {es:List (V×V)} (h:Rel P c g σ a w) (hf:find id σ.heap=some (.map kd es)) (hz:find z σ.heap=some .mark) (hn:es.all (fun e=>e.2.isNils)=true) :
  Rel P c g ⟨σ.env,Go.Ab.put id (.nmap z k kd (es.map fun e=>(e.1,.sl []))) σ.heap⟩ a w:=by
 have key:∀m o,find m (Go.Ab.put id (.nmap z k kd (es.map fun e=>(e.1,.sl []))) σ.heap)=some o→(∃o',find m σ.heap=some o'∧Alk o o')∧OR g w m o:=fun m o hm=>by
  rw [a0i] at hm
  by_cases e:m=id
  ·subst e
   simp at hm;subst hm
   refine ⟨⟨_,hf,.inr ⟨rfl,rfl⟩⟩,?_⟩
   obtain ⟨h1,ents,clock,h2,h3,h4,h5⟩:=h.hp.obj m _ hf
   have val:∀(i:Nat) (ent:MapEntry) (kv:V×V),ents[i]?=some ent→es[i]?=some kv→ent.val=.slice none 0 0:=fun i ent kv hi hj=>by
    have h6:=(h3.rd i ent kv (by simpa using hi) hj).2
    rw [b6o (xX.1 hn kv (zZ hj))] at h6
    exact (VR.rd (g:=g) h6).nils_inv
   have un:∀(i:Nat) (kv:V×V),(es.map fun e=>(e.1,V.sl []))[i]?=some kv→∃kv',es[i]?=some kv'∧kv=(kv'.1,V.sl []):=fun i kv hj=>by
    rw [xK] at hj
    cases hx:es[i]? with
    | none=>rw [hx] at hj;cases hj
    | some kv'=>rw [hx] at hj;cases hj;exact ⟨kv',rfl,rfl⟩
   refine ⟨h1,ents,clock,h2,⟨by simpa using h3.len,fun kv hm=>?_,fun i ent kv hi hj=>?_⟩,h4,h5,fun i ent kv hi hj=>?_,(h.hp.obj z _ hz).2⟩
   ·obtain ⟨e,he,rfl⟩:=wZ.1 hm
    exact h3.key e he
   ·obtain ⟨kv',e1,rfl⟩:=un i kv hj
    refine ⟨(h3.rd i ent kv' hi e1).1,?_⟩
    rw [val i ent kv' (by simpa using hi) e1];exact .nilsl
   ·obtain ⟨kv',e1,rfl⟩:=un i kv hj
    exact ⟨[],rfl,.inl ⟨val i ent kv' hi e1,rfl⟩⟩
  ·simp only [e,if_false] at hm
   exact ⟨⟨_,hm,.inl rfl⟩,h.hp.obj m _ hm⟩
 have cv:Cnv g (g) σ.heap (Go.Ab.put id (.nmap z k kd (es.map fun e=>(e.1,.sl []))) σ.heap) :=
  ⟨fun m o hm hnil=>by obtain ⟨o1,h1,ha⟩:=(key m o hm).1;exact ⟨m,o1,h1,hnil,rfl,ha⟩,fun i j o o' hi hj hni hnj he=>by
   obtain ⟨o1,h1,_⟩:=(key i o hi).1
   obtain ⟨o2,h2,_⟩:=(key j o' hj).1
   exact h.hp.inj i j o1 o2 h1 h2 hni hnj he,rfl⟩
 refine ⟨h.size,h.dfr,h.env,⟨fun m o hm=>(key m o hm).2,fun i j o o' hi hj hni hnj he=>?_,fun m o hm hnil hS=>?_,h.hp.lt,h.hp.tabs,cv.sub1 h.hp fun b hb=>.inl hb,cv.sub2 h.hp⟩,⟨h.fr.os,h.fr.tape,h.fr.output,h.fr.size,h.fr.old,fun m o hm hnil=>?_,h.fr.sup,h.fr.sub,h.fr.par,cv.own2 h.fr,h.fr.sb⟩⟩
 ·obtain ⟨o1,h1,_⟩:=(key i o hi).1
  obtain ⟨o2,h2,_⟩:=(key j o' hj).1
  exact h.hp.inj i j o1 o2 h1 h2 hni hnj he
 ·obtain ⟨o1,h1,_⟩:=(key m o hm).1
  exact h.hp.sep m o1 h1 hnil hS
 ·obtain ⟨o1,h1,_⟩:=(key m o hm).1
  exact h.fr.own m o1 h1 hnil
theorem Rel.rwn {id k:Nat} {xs:List V} {t:Option TypeId} (h:Rel P c g σ a w) (hf:find id σ.heap=some (.arr 1 xs t)) (hx:xs.all V.isNils=true):∃g',Rel P c g' ⟨σ.env,Go.Ab.put id (.rws k (xs.map fun _=>[])) σ.heap⟩ a w:=by
 have key:∀m o,find m (Go.Ab.put id (.rws k (xs.map fun _=>[])) σ.heap)=some o→(m=id∧o=.rws k (xs.map fun _=>[]))∨(m≠id∧find m σ.heap=some o):=fun m o hm=>by
  rw [a0i] at hm
  by_cases e:m=id
  ·rw [if_pos e] at hm;cases hm;exact .inl ⟨e,rfl⟩
  ·rw [if_neg e] at hm;exact .inr ⟨e,hm⟩
 have dom:∀m o,find m (Go.Ab.put id (.rws k (xs.map fun _=>[])) σ.heap)=some o→∃o',find m σ.heap=some o':=fun m o hm=>by
  rcases key m o hm with ⟨rfl,_⟩|⟨_,h1⟩
  ·exact ⟨_,hf⟩
  ·exact ⟨_,h1⟩
 obtain ⟨g',e1,e2,e3,e4,e5,e6⟩:∃g':Gh,g'.S=g.S∧g'.ρ=g.ρ∧g'.base=g.base∧g'.cap=g.cap∧g'.nil=g.nil∧∀b,(g'.sub b=g.sub b∧¬(¬g.nil id∧b=g.ρ id))∨(¬g.nil id∧b=g.ρ id∧g'.sub b=fun _=>none):=by
  by_cases hn:g.nil id
  ·exact ⟨g,rfl,rfl,rfl,rfl,rfl,fun b=>.inl ⟨rfl,fun h=>h.1 hn⟩⟩
  ·refine ⟨{ g with sub:=fun x=>if x=g.ρ id then fun _=>none else g.sub x },rfl,rfl,rfl,rfl,rfl,fun b=>?_⟩
   by_cases hb:b=g.ρ id
   ·exact .inr ⟨hn,hb,by simp [hb]⟩
   ·exact .inl ⟨by simp [hb],fun h=>hb h.2⟩
 have ag:∀i,g.agree g' i:=fun i=>⟨by rw [e2],by rw [e3],by rw [e4],by rw [e5]⟩
 have oth:∀m o,m≠id→find m σ.heap=some o→¬g.nil m→g'.sub (g.ρ m)=g.sub (g.ρ m):=fun m o hne hm hn=>by
  rcases e6 (g.ρ m) with h1|⟨h1,h2,_⟩
  ·exact h1.1
  ·exact absurd (h.hp.inj m id o _ hm hf hn h1 h2) hne
 have toB:∀{m o b},find m (Go.Ab.put id (.rws k (xs.map fun _=>[])) σ.heap)=some o→¬g'.nil m→a4i g' m o b→m≠id∧find m σ.heap=some o∧¬g.nil m∧a4i g m o b:=by
  intro m o b hm hn ⟨k2,yss,j,cc,eo,hj,hs⟩
  rw [e5] at hn
  rw [e2] at hs
  rcases key m o hm with ⟨rfl,_⟩|⟨hne,hm'⟩
  ·rcases e6 (g.ρ m) with ⟨_,h2⟩|⟨_,_,h3⟩
   ·exact absurd ⟨hn,rfl⟩ h2
   ·rw [h3] at hs;cases hs
  ·rw [oth m o hne hm' hn] at hs
   exact ⟨hne,hm',hn,k2,yss,j,cc,eo,hj,hs⟩
 refine ⟨g',h.size,h.dfr,fun s x hs=>⟨(h.env s x hs).1,(h.env s x hs).2.mono (fun _ _=>rfl) (fun b hb=>by rw [e1];exact hb) fun i _=>ag i⟩,
  ⟨fun m o hm=>?_,fun i j o o' hi hj hni hnj he=>?_,fun m o hm hn hS=>?_,fun b hb=>h.hp.lt b (by rw [←e1];exact hb),by rw [e1];exact h.hp.tabs,fun z o b hz hn hs=>?_,fun i k1 xss j c1 i' k2 xss' j' c2 b hi hi' hn hn' hj hj' he he'=>?_⟩,
  ⟨h.fr.os,h.fr.tape,h.fr.output,h.fr.size,h.fr.old,fun m o hm hn=>?_,fun b hb=>by rw [e1];exact h.fr.sup b hb,fun b hb=>h.fr.sub b (by rw [←e1];exact hb),fun m o hm=>(h.fr.par m o hm).trans (ag m),fun m o b hm hn hs=>?_,fun b hb hM=>?_⟩⟩
 ·rcases key m o hm with ⟨rfl,rfl⟩|⟨hne,hm'⟩
  ·rcases h.hp.obj m _ hf with ⟨h1,h2⟩|⟨h1,h2⟩
   ·exact .inl ⟨by rw [e5];exact h1,by simp [h2]⟩
   ·refine .inr ⟨by rw [e5];exact h1,?_⟩
    obtain ⟨p1,⟨cur,te,fz,p2,p3,p4,p5⟩,p6,p7,p8⟩:=h2
    rw [e2,e3,e4]
    refine ⟨⟨cur,te,fz,p2,by rw [p3];simp,p4.1,fun j ys hj=>?_⟩,by simpa using p6,p7⟩
    rw [xK] at hj
    cases hx2:xs[j]? with
    | none=>rw [hx2] at hj;cases hj
    | some x =>
     rw [hx2] at hj;cases hj
     have hxn:=b6o (xX.1 hx x (zZ hx2))
     subst hxn
     have:=p5 j 0 .nils .nils hx2 rfl
     rw [Nat.mul_one,wY] at this
     rcases e6 (g.ρ m) with ⟨_,q2⟩|⟨_,_,q3⟩
     ·exact absurd ⟨h1,rfl⟩ q2
     ·rw [q3];exact .inl ⟨(VR.rd (g:=g) this).nils_inv,rfl⟩
  ·exact (h.hp.obj m o hm').mono (fun _ _=>rfl) (fun b hb=>by rw [e1];exact hb) (ag m) (fun _=>rfl) (fun n _=>ag n) (w8 _) fun hn _=>⟨oth m o hne hm' hn,fun _ _=>rfl⟩
 ·obtain ⟨o1,h1⟩:=dom i o hi
  obtain ⟨o2,h2⟩:=dom j o' hj
  rw [e5] at hni hnj;rw [e2] at he
  exact h.hp.inj i j o1 o2 h1 h2 hni hnj he
 ·obtain ⟨o1,h1⟩:=dom m o hm
  rw [e5] at hn;rw [e1,e2] at hS
  exact h.hp.sep m o1 h1 hn hS
 ·obtain ⟨_,q2,q3,q4⟩:=toB hz hn hs
  obtain ⟨r1,r2⟩:=h.hp.sub1 z o b q2 q3 q4
  refine ⟨by rw [e1];exact r1,fun i o' hi hni=>?_⟩
  obtain ⟨o2,h2⟩:=dom i o' hi
  rw [e2];exact r2 i o2 h2 (by rw [←e5];exact hni)
 ·obtain ⟨p1,p2,p3,_⟩:=toB (b:=b) hi hn ⟨k1,xss,j,c1,rfl,hj,he⟩
  obtain ⟨p1',p2',p3',_⟩:=toB (b:=b) hi' hn' ⟨k2,xss',j',c2,rfl,hj',he'⟩
  rw [e2,oth i _ p1 p2 p3] at he
  rw [e2,oth i' _ p1' p2' p3'] at he'
  exact h.hp.sub2 i k1 xss j c1 i' k2 xss' j' c2 b p2 p2' p3 p3' hj hj' he he'
 ·obtain ⟨o1,h1⟩:=dom m o hm
  rw [e2];exact h.fr.own m o1 h1 (by rw [←e5];exact hn)
 ·obtain ⟨_,q2,q3,q4⟩:=toB hm hn hs
  exact h.fr.own2 m o b q2 q3 q4
 ·rcases e6 b with h1|⟨h1,rfl,_⟩
  ·rw [h1.1];exact h.fr.sb b hb hM
  ·rcases (h.fr.own id _ hf h1).1 with h2|h2
   ·omega
   ·exact absurd h2 hM
theorem b1q {n:a5r} {K:St→Prop} (h:a0e c.H0 n σ K) (hR:Rel P c g σ a w):∃g' σ',K σ'∧Rel P c g' σ' a w:=by
 cases n with
 | rwn id k =>
  simp only [a0e] at h
  split at h
  ·rename_i q xs t hf
   cases hc:Nat.beq q 1&&xs.all V.isNils with
   | false=>rw [hc] at h;exact h.elim
   | true =>
    rw [hc] at h
    simp only [xY] at hc
    have:=zR hc.1;subst this
    obtain ⟨g',hr⟩:=hR.rwn (k:=k) hf hc.2
    exact ⟨g',_,h,hr⟩
  ·rename_i k' xss hf
   cases hc:Nat.beq k k' with
   | false=>rw [hc] at h;exact h.elim
   | true=>rw [hc] at h;exact ⟨g,σ,h,hR⟩
  ·exact h.elim
 | rsa id =>
  simp only [a0e] at h
  split at h
  ·rename_i k xss hf
   cases hc:xss.all (fun xs=>!a2w xs) with
   | false=>rw [hc] at h;exact h.elim
   | true =>
    rw [hc] at h
    obtain ⟨g',hr⟩:=hR.rsa hf hc
    exact ⟨g',_,h,hr⟩
  ·exact ⟨g,σ,h,hR⟩
  ·exact h.elim
 | gc keep=>exact ⟨g,_,h,hR.sub (fun s x hx=>b59 hx) fun _ _ h=>h⟩
 | adq s q =>
  simp only [a0e] at h
  split at h
  ·rename_i id off y hs hq
   exact ⟨g,_,h (g.ρ id),hR.putv hq (.at_ id _ _ rfl)⟩
  ·exact h.elim
 | toA s q =>
  simp only [a0e] at h
  split at h
  ·rename_i id off id' b hs hq
   cases hi:Nat.beq id id' with
   | false=>rw [hi] at h;exact h.elim
   | true =>
    rw [hi] at h
    have e:=zR hi;subst e
    have h1:=(hR.env s _ hs).2
    have h2:=(hR.env q _ hq).2
    refine ⟨g,_,h,hR.putv hs ?_⟩
    rw [h1.ptr_inv,←h2.at_inv];exact .rd (.adr _ _)
  ·exact h.elim
 | ofA s q =>
  simp only [a0e] at h
  split at h
  ·rename_i b off id b' hs hq
   obtain ⟨rfl,h⟩:=h
   have h1:=(hR.env s _ hs).2
   have h2:=(hR.env q _ hq).2
   refine ⟨g,_,h,hR.putv hs ?_⟩
   rw [h1.adr_inv,←h2.at_inv];exact .ptr _ _
  ·exact h.elim
 | nm id z k =>
  simp only [a0e] at h
  split at h
  ·rename_i kd es hf
   split at h
   ·rename_i hz
    cases hn:es.all fun e=>e.2.isNils with
    | false=>rw [hn] at h;exact h.elim
    | true=>rw [hn] at h;exact ⟨g,_,h,hR.nm hf hz hn⟩
   ·exact h.elim
  ·exact h.elim
 | bld id =>
  simp only [a0e] at h
  split at h
  ·rename_i x cs t hf
   cases hx:x.isB id with
   | false=>rw [hx] at h;exact h.elim
   | true=>rw [hx] at h;exact ⟨g,_,h,hR.bld hf hx⟩
  ·exact h.elim
 | fz s =>
  simp only [a0e] at h
  split at h
  ·rename_i x hx
   obtain ⟨g',σ',h1,h2⟩:=a3w h hR
   split at h1
   ·rename_i y hy
    exact ⟨g',_,h1,h2.nl hy⟩
   ·exact h1.elim
  ·exact ⟨g,σ,h,hR⟩
 | fzc s =>
  simp only [a0e] at h
  split at h
  ·rename_i id off hs
   split at h
   ·rename_i cs t hf
    obtain ⟨g',σ',h1,h2⟩:=a3w h hR
    split at h1
    ·rename_i ds t' hd
     exact ⟨g',_,h1,h2.nlc hd⟩
    ·exact h1.elim
   ·exact h.elim
  ·exact h.elim
 | trim s =>
  simp only [a0e] at h
  split at h
  ·rename_i id k lo n hs
   split at h
   ·rename_i k' xs t hf h0
    cases hk:Nat.beq k k' with
    | false=>rw [hk] at h;exact h.elim
    | true =>
     rw [hk] at h
     have:=zR hk;subst this
     exact ⟨_,_,h,hR.trim hs hf h0⟩
   ·exact h.elim
  ·exact ⟨g,σ,h,hR⟩
 | ownC id off id2 k ty =>
  simp only [a0e] at h
  split at h
  ·rename_i cs t hf
   split at h
   ·rename_i hn
    cases hc:a0x c.H0 σ [id2]&&!a0t id2 σ.heap&&!Nat.beq id id2 with
    | false=>rw [hc] at h;exact h.elim
    | true =>
     rw [hc] at h
     simp only [xY,xO] at hc
     refine ⟨_,_,h,hR.accC hf hn (a19 hc.1.1 id2 xA) fun e=>?_⟩
     have hj:=hc.2
     rw [e,wW] at hj;cases hj
   ·rename_i j k' lo n hn
    cases hj:Nat.beq j id2 with
    | true=>rw [hj] at h;exact ⟨g,σ,h,hR⟩
    | false =>
     rw [hj] at h
     simp only [vC] at h
     cases hc:a0x c.H0 σ [id2]&&!a0t id2 σ.heap&&a0t j σ.heap with
     | false=>rw [hc] at h;exact h.elim
     | true =>
      rw [hc] at h
      simp only [xY,xO] at hc
      refine ⟨_,_,h,hR.ren (fun e=>?_) (a19 hc.1.1 id2 xA) hc.1.2⟩
      rw [e,wW] at hj;cases hj
   ·exact h.elim
  ·exact h.elim
 | accC id off id2 k ty =>
  simp only [a0e] at h
  split at h
  ·rename_i cs t hf
   split at h
   ·rename_i hn
    cases hc:a0x c.H0 σ [id2]&&!a0t id2 σ.heap&&!Nat.beq id id2 with
    | false=>rw [hc] at h;exact h.elim
    | true =>
     rw [hc] at h
     simp only [xY,xO] at hc
     refine ⟨_,_,h,hR.accC hf hn (a19 hc.1.1 id2 xA) fun e=>?_⟩
     have hj:=hc.2
     rw [e,wW] at hj;cases hj
   ·exact h.elim
  ·exact h.elim
 | fact s =>
  refine ⟨g,σ,h ?_,hR⟩
  rw [a1d]
  cases hf:find s σ.env with
  | none=>simp [V.fact]
  | some x=>exact (hR.env s x hf).2.fact
 | ren j id =>
  simp only [a0e] at h
  cases hc:a0x c.H0 σ [id]&&!a0t id σ.heap&&!Nat.beq j id with
  | false=>rw [hc] at h;exact h.elim
  | true =>
   rw [hc] at h
   simp only [xY,xO] at hc
   refine ⟨_,_,h,hR.ren (fun e=>?_) (a19 hc.1.1 id xA) hc.1.2⟩
   have hj:=hc.2
   rw [e,wW] at hj;cases hj
 | nl s =>
  simp only [a0e] at h
  split at h
  case h_2=>exact h.elim
  rename_i x hx
  refine ⟨g,_,h,⟨hR.size,hR.dfr,fun t y hy=>?_,hR.hp,hR.fr⟩⟩
  simp only [a0i] at hy
  obtain ⟨h1,h2⟩:=hR.env s x hx
  by_cases e:t=s
  ·subst e;simp at hy;subst hy;exact ⟨h1,h2.unnil⟩
  ·simp only [e,if_false] at hy;exact hR.env t y hy
 | renq j id =>
  simp only [a0e] at h
  cases hj:a0t j σ.heap with
  | false=>rw [hj] at h;exact ⟨_,_,h,hR⟩
  | true =>
   rw [hj] at h
   simp only [vE] at h
   cases hc:a0x c.H0 σ [id]&&!a0t id σ.heap&&!Nat.beq j id with
   | false=>rw [hc] at h;exact h.elim
   | true =>
    rw [hc] at h
    simp only [xY,xO] at hc
    refine ⟨_,_,h,hR.ren (fun e=>?_) (a19 hc.1.1 id xA) hc.1.2⟩
    have hj:=hc.2
    rw [e,wW] at hj;cases hj
 | shq id =>
  simp only [a0e] at h
  split at h
  ·rename_i k xs hf
   exact ⟨_,_,h.2.2,hR.shut hf h.1 h.2.1⟩
  ·rename_i kd es hf
   exact ⟨_,_,h,hR.shm hf (.rd (a8o (hR.hp.obj _ _ hf)))⟩
  ·rename_i z k kd es hf
   exact ⟨_,_,h,hR.shm hf (a9c (hR.hp.obj _ _ hf))⟩
  ·rename_i k xss hf
   obtain ⟨g',hr⟩:=hR.rsa hf h.1
   exact ⟨_,_,h.2.2.2,hr.shut (a7f _ _ _) h.2.1 h.2.2.1⟩
  ·exact ⟨_,_,h,hR⟩
  ·exact h.elim
 | shut id =>
  simp only [a0e] at h
  split at h
  ·rename_i k xs hf
   exact ⟨_,_,h.2.2,hR.shut hf h.1 h.2.1⟩
  ·rename_i kd es hf
   exact ⟨_,_,h,hR.shm hf (.rd (a8o (hR.hp.obj _ _ hf)))⟩
  ·rename_i z k kd es hf
   exact ⟨_,_,h,hR.shm hf (a9c (hR.hp.obj _ _ hf))⟩
  ·rename_i k xss hf
   obtain ⟨g',hr⟩:=hR.rsa hf h.1
   exact ⟨_,_,h.2.2.2,hr.shut (a7f _ _ _) h.2.1 h.2.2.1⟩
  ·exact h.elim
 | accA s off id k =>
  simp only [a0e] at h
  split at h
  ·rename_i cs hf
   split at h
   ·rename_i hn
    cases hc:a0x c.H0 σ [id]&&!a0t id σ.heap with
    | false=>rw [hc] at h;exact h.elim
    | true =>
     rw [hc] at h
     simp only [vE] at h
     simp only [xY,xO] at hc
     have hcl:=a19 hc.1 id xA
     obtain ⟨hlt,hv⟩:=hR.env s _ hf
     have hst:=q9.newNil (g:=g) (w:=w) (V.agg (cs.set off (.osl id k 0 0))) id k [] none hR.hp
     have hfr:a0l c.H0 g (g.setNil id) σ ⟨.agg (cs.set off (.osl id k 0 0)),[],[(id,.arr k [])]⟩:=a0l.of_clean hcl
     have hv':VR (g.setNil id) w (a.tmps.getD s undef) (.agg (cs.set off (.osl id k 0 0))):=by
      have hne:=a2v hcl.2.1 hf
      have h2:VR (g.setNil id) w (a.tmps.getD s undef) (.agg cs):=VR.mono (g:=g) (g':=g.setNil id) (w:=w) (w':=w) (fun _ _=>rfl) (fun _ h=>h) hv fun i (hi:V.has i (.agg cs)=true)=>Gh.setNil_agree (g:=g) (n:=id) fun e=>by rw [e] at hi;rw [hne] at hi;cases hi
      obtain ⟨vs,e1,e2,e3⟩:=h2.agg_inv
      rw [e1]
      refine .agg vs _ (by rw [List.length_set];exact e2) fun j x hj=>?_
      rw [xJ] at hj
      by_cases e4:off=j
      ·subst e4
       have hlo:off<cs.length:=(zG.1 hn).1
       simp [hlo] at hj;subst hj
       rw [(e3 off _ hn).nils_inv];exact .oslnil id k 0 (.inl rfl)
      ·rw [if_neg e4] at hj;exact e3 j x hj
     have:=hR.step (d:=some s) (fun n hn=>by cases hn;exact hlt) hst hfr hv'
     refine ⟨g.setNil id,_,h,?_⟩
     have e:a.put (some s) (a.tmps.getD s undef)=a:=by
      have hlt':s<a.tmps.size:=by rw [hR.size];exact hlt
      have e1:a.tmps.setIfInBounds s (a.tmps.getD s undef)=a.tmps:=by
       refine Array.ext (by simp) fun i h1 h2=>?_
       rw [Array.getElem_setIfInBounds]
       ·by_cases e:s=i
        ·subst e;simp [hlt']
        ·simp [e]
       ·exact h2
      simp only [Act.put,e1]
     rw [e] at this
     exact this
   ·rename_i j k' lo n hs
    cases hj:Nat.beq j id with
    | true=>rw [hj] at h;exact ⟨g,σ,h,hR⟩
    | false =>
     rw [hj] at h
     simp only [vC] at h
     cases hc:a0x c.H0 σ [id]&&!a0t id σ.heap&&a0t j σ.heap with
     | false=>rw [hc] at h;exact h.elim
     | true =>
      rw [hc] at h
      simp only [xY,xO] at hc
      refine ⟨_,_,h,hR.ren (fun e=>?_) (a19 hc.1.1 id xA) hc.1.2⟩
      rw [e,wW] at hj;cases hj
   ·exact h.elim
  ·exact h.elim
 | acc s id k =>
  simp only [a0e] at h
  split at h
  ·rename_i hs
   cases hc:a0x c.H0 σ [id]&&!a0t id σ.heap with
   | false=>rw [hc] at h;exact h.elim
   | true =>
    rw [hc] at h
    simp only [vE] at h
    simp only [xY,xO] at hc
    have hcl:=a19 hc.1 id xA
    have hf:find s σ.env=some .nils:=by
     rw [a1d] at hs
     cases hf:find s σ.env with
     | none=>rw [hf] at hs;cases hs
     | some x=>rw [hf] at hs;simp at hs;rw [hs]
    obtain ⟨hlt,hv⟩:=hR.env s _ hf
    have hst:=q9.newNil (g:=g) (w:=w) (V.osl id k 0 0) id k [] none hR.hp
    have hfr:a0l c.H0 g (g.setNil id) σ ⟨.osl id k 0 0,[],[(id,.arr k [])]⟩:=a0l.of_clean hcl
    have hv':VR (g.setNil id) w (a.tmps.getD s undef) (.osl id k 0 0):=by
     rw [hv.nils_inv];exact .oslnil id k 0 (.inl rfl)
    have:=hR.step (d:=some s) (fun n hn=>by cases hn;exact hlt) hst hfr hv'
    refine ⟨g.setNil id,_,h,?_⟩
    have e:a.put (some s) (a.tmps.getD s undef)=a:=by
     have hlt':s<a.tmps.size:=by rw [hR.size];exact hlt
     have e1:a.tmps.setIfInBounds s (a.tmps.getD s undef)=a.tmps:=by
      refine Array.ext (by simp) fun i h1 h2=>?_
      rw [Array.getElem_setIfInBounds]
      ·by_cases e:s=i
       ·subst e;simp [hlt']
       ·simp [e]
      ·exact h2
     simp only [Act.put,e1]
    rw [e] at this
    exact this
  ·rename_i j k' lo n hs
   cases hj:Nat.beq j id with
   | true=>rw [hj] at h;exact ⟨g,σ,h,hR⟩
   | false =>
    rw [hj] at h
    simp only [vC] at h
    cases hc:a0x c.H0 σ [id]&&!a0t id σ.heap&&a0t j σ.heap with
    | false=>rw [hc] at h;exact h.elim
    | true =>
     rw [hc] at h
     simp only [xY,xO] at hc
     refine ⟨_,_,h,hR.ren (fun e=>?_) (a19 hc.1.1 id xA) hc.1.2⟩
     rw [e,wW] at hj;cases hj
  ·exact h.elim
end
def e1o:List (Nat×V)→List (Nat×V)→Prop
 | [],_=>True
 | (n,x)::r,env=>get n env=x∧e1o r env
def c3k:Heap→Heap→Prop
 | [],_=>True
 | (n,o)::r,H=>find n H=some o∧c3k r H
def V.nav:V→Bool
 | .any=>false
 | _=>true
def c4a:List (Nat×V)→Bool
 | []=>true
 | (_,x)::r=>x.nav&&c4a r
def distinct {α:Type}:List (Nat×α)→Bool
 | []=>true
 | (n,_)::r=>(match find n r with|none=>true|some _=>false)&&distinct r
def St.good (τ:St):Bool:=c4a τ.env&&distinct τ.env&&distinct τ.heap
def a0p (τ σ:St):Prop:=τ.good=true∧e1o τ.env σ.env∧c3k τ.heap σ.heap
def factsSt (σ:St):Prop:=c2x σ.env∧b36 σ.heap
def a0f (H0:Heap):List a5r→St→(St→Prop)→Prop
 | [],σ,K=>K σ
 | n::r,σ,K=>a0e H0 n σ fun σ'=>a0f H0 r σ' K
theorem a7s {K K':St→Prop} (hk:∀σ,K σ→K' σ):∀{l:List Nat} {σ:St},d0c l σ K→d0c l σ K'
 | [],_,h=>hk _ h
 | id::r,σ,h=>by
  simp only [d0c,f0d] at h ⊢
  split at h<;>first|exact ⟨h.1,h.2.1,a7s hk h.2.2⟩|exact ⟨h.1,h.2.1,h.2.2.1,a7s hk h.2.2.2⟩|exact a7s hk h|exact h.elim
theorem a9g {b:Bool} {p q:Prop} (h:p→q) (hp:bif b then p else False):bif b then q else False:=by
 cases b with
 | true=>exact h hp
 | false=>exact hp
theorem b7b {H0:Heap} {n:a5r} {σ:St} {K K':St→Prop} (hk:∀σ,K σ→K' σ) (h:a0e H0 n σ K):a0e H0 n σ K':=by
 cases n<;>simp only [a0e] at h ⊢
 case gc=>exact hk _ h
 case rwn =>
  split at h
  ·exact a9g (hk _) h
  ·exact a9g (hk _) h
  ·exact h.elim
 case rsa =>
  split at h
  ·exact a9g (hk _) h
  ·exact hk _ h
  ·exact h.elim
 case fact=>exact fun hf=>hk _ (h hf)
 case adq=>split at h<;>first|exact fun b=>hk _ (h b)|exact h.elim
 case toA=>split at h<;>first|exact a9g (hk _) h|exact h.elim
 case ofA=>split at h<;>first|exact ⟨h.1,hk _ h.2⟩|exact h.elim
 case nm =>
  split at h
  ·split at h
   ·exact a9g (hk _) h
   ·exact h.elim
  ·exact h.elim
 case bld id =>
  split at h
  ·rename_i x cs t hf
   cases hb:x.isB id with
   | true=>rw [hb] at h;exact hk _ h
   | false=>rw [hb] at h;exact h.elim
  ·exact h.elim
 case nl=>split at h<;>first|exact hk _ h|exact h.elim
 case ren=>exact a9g (hk _) h
 case renq j id =>
  cases hb:a0t j σ.heap with
  | true=>rw [hb] at h;exact a9g (hk _) h
  | false=>rw [hb] at h;exact hk _ h
 case accA s off id k =>
  split at h
  ·split at h
   ·exact a9g (hk _) h
   ·rename_i j _ _ _ _
    cases hb:Nat.beq j id with
    | true=>rw [hb] at h;exact hk _ h
    | false=>rw [hb] at h;exact a9g (hk _) h
   ·exact h.elim
  ·exact h.elim
 case acc s id k =>
  split at h
  ·exact a9g (hk _) h
  ·rename_i j _ _ _ _
   cases hb:Nat.beq j id with
   | true=>rw [hb] at h;exact hk _ h
   | false=>rw [hb] at h;exact a9g (hk _) h
  ·exact h.elim
 case shut=>split at h<;>first|exact ⟨h.1,h.2.1,hk _ h.2.2⟩|exact ⟨h.1,h.2.1,h.2.2.1,hk _ h.2.2.2⟩|exact hk _ h|exact h.elim
 case shq=>split at h<;>first|exact ⟨h.1,h.2.1,hk _ h.2.2⟩|exact ⟨h.1,h.2.1,h.2.2.1,hk _ h.2.2.2⟩|exact hk _ h|exact h.elim
 case accC =>
  split at h
  ·split at h
   ·exact a9g (hk _) h
   ·exact h.elim
  ·exact h.elim
 case ownC id off id2 k ty =>
  split at h
  ·split at h
   ·exact a9g (hk _) h
   ·rename_i j _ _ _ _
    cases hb:Nat.beq j id2 with
    | true=>rw [hb] at h;exact hk _ h
    | false=>rw [hb] at h;exact a9g (hk _) h
   ·exact h.elim
  ·exact h.elim
 case fz =>
  split at h
  ·refine a7s (fun σ' h'=>?_) h
   split at h'<;>first|exact hk _ h'|exact h'.elim
  ·exact hk _ h
 case fzc =>
  split at h
  ·split at h
   ·refine a7s (fun σ' h'=>?_) h
    split at h'<;>first|exact hk _ h'|exact h'.elim
   ·exact h.elim
  ·exact h.elim
 case trim =>
  split at h
  ·split at h
   ·exact a9g (hk _) h
   ·exact h.elim
  ·exact hk _ h
theorem a1w {H0:Heap} {K K':St→Prop} (hk:∀σ,K σ→K' σ):∀{ns:List a5r} {σ:St},a0f H0 ns σ K→a0f H0 ns σ K'
 | [],_,h=>hk _ h
 | n::r,σ,h=>b7b (n:=n) (fun σ' h'=>a1w hk h') h
inductive It where
 | op (m:MOp)
 | nt (n:a5r)
 | grp (ms:List MOp)
def b2x:List It→List MOp
 | []=>[]
 | .op m::r=>m::b2x r
 | .nt _::r=>b2x r
 | .grp ms::r=>ms++b2x r
def b9y (P:Program) (H0:Heap):List It→St→(St→Prop)→Prop
 | [],σ,K=>K σ
 | .op m::r,σ,K=>b6d P H0 m σ fun σ'=>b9y P H0 r σ' K
 | .nt n::r,σ,K=>a0e H0 n σ fun σ'=>b9y P H0 r σ' K
 | .grp ms::r,σ,K=>Lk (∃(α:Type) (I:α→St) (p:α→Prop),runN P H0 ms σ (fun σ'=>Lk (∃y,p y∧a0p (I y) σ'))∧∀y,p y→factsSt (I y)→b9y P H0 r (I y) K)
section
variable {P:Program} {c:Ctx} {g:Gh} {σ:St} {a:Act} {w:World}
theorem b8d {s:Nat} {x:V}:∀{τ env:List (Nat×V)},c4a τ=true→e1o τ env→find s τ=some x→find s env=some x
 | (n,y)::r,env,hn,h,hf=>by
  simp only [c4a,xY] at hn
  simp only [e1o] at h
  simp only [find] at hf
  cases hb:Nat.beq s n with
  | true =>
   rw [hb] at hf;cases hf
   have e:=zR hb;subst e
   have h1:=h.1
   rw [a1d] at h1
   cases hg:find s env with
   | none=>rw [hg] at h1;simp at h1;subst h1;simp [V.nav] at hn
   | some z=>rw [hg] at h1;simp at h1;rw [h1]
  | false=>rw [hb] at hf;exact b8d hn.2 h.2 hf
theorem a8j {s:Nat} {x:a03}:∀{τ env:Heap},c3k τ env→find s τ=some x→find s env=some x
 | (n,y)::r,env,h,hf=>by
  simp only [c3k] at h
  simp only [find] at hf
  cases hb:Nat.beq s n with
  | true =>
   rw [hb] at hf;cases hf
   have e:=zR hb;subst e
   exact h.1
  | false=>rw [hb] at hf;exact a8j h.2 hf
theorem Rel.subSt {g:Gh} {σ τ:St} {a:Act} {w:World} (h:Rel P c g σ a w) (hs:a0p τ σ):Rel P c g τ a w:=by
 obtain ⟨h1,h2,h3⟩:=hs
 simp only [St.good,xY] at h1
 exact h.sub (fun _ _ hx=>b8d h1.1.1 h2 hx) fun _ _ hx=>a8j h3 hx
theorem a7g {α:Type} {n:Nat} {x:α}:∀{l:List (Nat×α)},distinct l=true→(n,x)∈l→find n l=some x
 | (m,y)::r,h,hm=>by
  simp only [distinct,xY] at h
  rcases wO.1 hm with e|hm
  ·cases e;simp [find]
  ·have ih:=a7g h.2 hm
   have hb:Nat.beq n m=false:=by
    cases hb:Nat.beq n m with
    | true =>
     have e:=zR hb;subst e
     rw [ih] at h;simp at h
    | false=>rfl
   simp only [find,hb,vC];exact ih
theorem b9f:∀{env:List (Nat×V)},(∀s x,(s,x)∈env→x.fact)→c2x env
 | [],_=>trivial
 | (n,x)::r,h=>⟨h n x xA,b9f fun s y hy=>h s y (z3 _ hy)⟩
theorem b9e:∀{H:Heap},(∀s x,(s,x)∈H→x.fact)→b36 H
 | [],_=>trivial
 | (n,x)::r,h=>⟨h n x xA,b9e fun s y hy=>h s y (z3 _ hy)⟩
theorem Rel.factsSt {g:Gh} {σ:St} {a:Act} {w:World} (h:Rel P c g σ a w) (hg:σ.good=true):factsSt σ:=by
 simp only [St.good,xY] at hg
 exact ⟨b9f fun s x hx=>(h.env s x (a7g hg.1.2 hx)).2.fact,b9e fun s x hx=>(h.hp.obj s x (a7g hg.2 hx)).fact⟩
theorem a8m:∀{ns:List a5r} {K:St→Prop} {g:Gh} {σ:St},a0f c.H0 ns σ K→Rel P c g σ a w→∃g' σ',K σ'∧Rel P c g' σ' a w
 | [],K,g,σ,h,hR=>⟨g,σ,h,hR⟩
 | n::r,K,g,σ,h,hR=>by
  obtain ⟨g',σ',h',hR'⟩:=b1q (n:=n) (K:=fun σ'=>a0f c.H0 r σ' K) h hR
  exact a8m h' hR'
theorem b2t {ops:Array Oper} {Q:Exit→Act→World→Prop} {K:St→Prop} {m:MOp} {r:List MOp} {i:Nat} {g:Gh} {σ:St} {a:Act} {w:World} (hok:a15 P c.nt ops (m::r) (ops.toList.drop i)=true) (hR:Rel P c g σ a w) (h:b6d P c.H0 m σ K)
  (ih:∀g σ a w,a15 P c.nt ops r (ops.toList.drop (i+1))=true→K σ→Rel P c g σ a w→wpOps P ops Q (List.range' (i+1) r.length) a w):wpOps P ops Q (List.range' i (m::r).length) a w:=by
 rw [xU,List.range'_succ,wpOps_cons]
 cases hd:ops.toList.drop i with
 | nil=>rw [hd] at hok;simp [a15] at hok
 | cons o s =>
  rw [hd] at hok
  simp only [a15,xY] at hok
  obtain ⟨hm,hr⟩:=hok
  have hi:ops[i]?=some o:=by
   have:(ops.toList.drop i)[0]?=some o:=by rw [hd];rfl
   rw [xD,wY,zU] at this
   exact this
  have hs:ops.toList.drop (i+1)=s:=by
   have:=congrArg List.tail hd
   simpa using this
  rw [←hs] at hr
  have ih:=fun g σ a w=>ih g σ a w hr
  have hm':=hm
  simp only [MOp.ok,xY] at hm'
  obtain ⟨⟨_,h2⟩,h3⟩:=hm'
  obtain ⟨hdd,hlt⟩:=b0i h2
  simp only [wpOp,hi]
  simp only [b6d] at h
  cases hg:m.guard with
  | none =>
   rw [hg] at h h3
   simp only [b1v h3,if_true]
   exact .inl (a5w hm hR h fun eff he g' a' w' hR'=>ih g' _ a' w' he hR')
  | some p =>
   obtain ⟨t,want⟩:=p
   rw [hg] at h h3
   simp only at h
   split at h
   case h_3=>exact h.elim
   case h_2 hb =>
    rw [b55 h3 hR hb]
    simp only [xF,if_false]
    exact ih g _ _ w h (by rw [←hdd];exact hR.undef' hlt)
   rename_i b hb
   obtain ⟨hx,hy⟩:=h
   rw [a7z h3 hR hb]
   have hf:=b09 hb
   by_cases hbw:b=want
   ·subst hbw
    have hw:c9p b b=true:=by cases b<;>rfl
    simp only [hw,if_true]
    have hx:=hx rfl
    rw [a5y hf] at hx
    exact .inl (a5w hm hR hx fun eff he g' a' w' hR'=>ih g' _ a' w' he hR')
   ·have hbn:b=(!want):=by cases b<;>cases want<;>first|rfl|exact absurd rfl hbw
    have hw:c9p b want=false:=by rw [hbn];cases want<;>rfl
    simp only [hw,xF,if_false]
    have hy:=hy hbn
    rw [←hbn,a5y hf] at hy
    exact ih g _ _ w hy (by rw [←hdd];exact hR.undef' hlt)
theorem b4h {ops:Array Oper} {Q:Exit→Act→World→Prop} {K:St→Prop} {rest:List MOp} :
  ∀(ms:List MOp) (i:Nat) (g:Gh) (σ:St) (a:Act) (w:World),a15 P c.nt ops (ms++rest) (ops.toList.drop i)=true→Rel P c g σ a w→runN P c.H0 ms σ K →
  (∀σ' g' a' w',K σ'→a15 P c.nt ops rest (ops.toList.drop (i+ms.length))=true→Rel P c g' σ' a' w'→wpOps P ops Q (List.range' (i+ms.length) rest.length) a' w')→wpOps P ops Q (List.range' i (ms++rest).length) a w
 | [],i,g,σ,a,w,hok,hR,h,hK=>hK σ g a w h hok hR
 | m::r,i,g,σ,a,w,hok,hR,h,hK=>by
  refine b2t (K:=fun σ'=>runN P c.H0 r σ' K) hok hR h fun g σ a w hok' h' hR'=>?_
  refine b4h r (i+1) g σ a w hok' hR' h' fun σ' g' a' w' k1 k2 k3=>?_
  have e:i+(m::r).length=i+1+r.length:=by simp;omega
  have:=hK σ' g' a' w' k1 (by rw [e];exact k2) k3
  rwa [e] at this
theorem a8k {ops:Array Oper} {Q:Exit→Act→World→Prop} {K:St→Prop} (hK:∀σ' g' a' w',K σ'→Rel P c g' σ' a' w'→Q .normal a' w') :
  ∀(ms:List It) (i:Nat) (g:Gh) (σ:St) (a:Act) (w:World),a15 P c.nt ops (b2x ms) (ops.toList.drop i)=true→Rel P c g σ a w→b9y P c.H0 ms σ K→wpOps P ops Q (List.range' i (b2x ms).length) a w
 | [],i,g,σ,a,w,_,hR,h=>hK σ g a w h hR
 | .nt n::r,i,g,σ,a,w,hok,hR,h=>by
  obtain ⟨g',σ',h',hR'⟩:=b1q (n:=n) (K:=fun σ'=>b9y P c.H0 r σ' K) h hR
  exact a8k hK r i g' σ' a w hok hR' h'
 | .op m::r,i,g,σ,a,w,hok,hR,h =>
  b2t (K:=fun σ'=>b9y P c.H0 r σ' K) hok hR h fun g σ a w hok' h' hR'=>a8k hK r (i+1) g σ a w hok' hR' h'
 | .grp ms::r,i,g,σ,a,w,hok,hR,h=>by
  obtain ⟨α,I,p,h1,h2⟩:=Lk.out h
  refine b4h ms i g σ a w hok hR h1 fun σ' g' a' w' k1 k2 k3=>?_
  obtain ⟨y,hy,hs⟩:=Lk.out k1
  have hr':=k3.subSt hs
  exact a8k hK r _ g' (I y) a' w' k2 hr' (h2 y hy (hr'.factsSt hs.1))
theorem c0g {ops:Array Oper} {ms:List It} {Q:Exit→Act→World→Prop} {K:St→Prop} (hK:∀σ' g' a' w',K σ'→Rel P c g' σ' a' w'→Q .normal a' w')
  (hok:a15 P c.nt ops (b2x ms) ops.toList=true) (hR:Rel P c g σ a w) (h:b9y P c.H0 ms σ K):wpOps P ops Q (List.range ops.size) a w:=by
 have hl:∀{ms:List MOp} {l:List Oper},a15 P c.nt ops ms l=true→ms.length=l.length:=by
  intro ms
  induction ms with
  | nil =>
   intro l h
   cases l with
   | nil=>rfl
   | cons o s=>cases h
  | cons m r ih =>
   intro l h
   cases l with
   | nil=>cases h
   | cons o s =>
    simp only [a15,xY] at h
    simp only [xU,ih h.2]
 have:=a8k hK ms 0 g σ a w (by rw [wL];exact hok) hR h
 rw [hl hok,z6] at this
 rwa [List.range_eq_range']
end
def WF (r:Option Nat):Fence:={ Fence.wide with round:=r }
theorem d50 (r:Option Nat) (n:Nat):(WF r).room n:=room_wide n
section
variable {P:Program} {r:Option Nat} {n:Nat}
theorem b2a {f:FuncId} {args:Array Value} {w:World} {R:Ending→World→Prop} (h:Calls P f args w R):CallsIn (WF r) n P f args w R :=
 ⟨trivial,fun cs hr=>((callsIn_wide (n:=n)).2 h).2 cs hr⟩
theorem c36 {f:FuncId} {args:Array Value} {w:World} {R:Ending→World→Prop} (h:CallsIn (WF r) n P f args w R):Calls P f args w R :=
 h.calls (d50 r)
theorem c6a {row:String} {args:Array Value} {w:World} {R:Value→World→Prop} (h:Rows P row args w R):RowsIn (WF r) n P row args w R :=
 fun c cs _=>let ⟨v,w',hr,hs⟩:=h c cs;⟨v,w',hr,stepsIn_wide.2 hs⟩
def a3g (o:Oper):Bool:=match o.op with|.defer _=>false|_=>true
theorem c0i {o:Oper} (h:a3g o=true):∀c,o.op≠.defer c:=by
 intro c e;simp [a3g,e] at h
theorem d6e {o:Oper} {a:Act} {w:World} {K:Act→World→Prop} {Q:Exit→Act→World→Prop} (hd:a3g o=true) (h:o.wp P a w K Q):o.wpIn (WF r) n P a w K Q:=by
 refine ⟨fun _ _=>trivial,?_⟩
 rw [Oper.semAt_eq _ _ _ (c0i hd)]
 unfold Oper.wp at h
 generalize (execOp a.eval o).run P w=res at *
 cases res with
 | ok x w' =>
  cases x with
  | value v=>exact h
  | skip=>exact h
  | enter f args=>exact ⟨fun h=>by simp [WF,Fence.wide] at h,b2a h⟩
  | row row args=>exact ⟨fun h=>by simp [WF,Fence.wide] at h,c6a h⟩
  | _=>first|exact h|exact h.elim
 | halt x w' => 
  cases x with
  | panic v=>exact h
  | _=>exact h.elim
theorem a8l {ops:Array Oper} {Q:Exit→Act→World→Prop} (hd:(ops.toList.all a3g)=true) (hQ:∀a w,¬Q .outgrown a w) :
  ∀(l:List Nat) (a:Act) (w:World),wpOps P ops Q l a w→wpOpsIn (WF r) n P ops Q l a w
 | [],a,w,h=>h
 | i :: rest,a,w,h=>by
  simp only [wpOps] at h
  simp only [wpOpsIn]
  cases ho:ops[i]? with
  | none=>rw [ho] at h;exact a8l hd hQ rest a w h
  | some o =>
   rw [ho] at h
   have hnd:a3g o=true:=by
    have:=xX.1 hd o (by
     have:=zU (xs:=ops) (i:=i)
     rw [ho] at this
     exact zZ this)
    exact this
   by_cases hw:Region.wanted o (yielded ops a.tmps)=true
   ·simp only [hw,if_true] at h ⊢
    rcases h with h|⟨_,a0,w0,h⟩
    ·exact Oper.wpIn_mono (fun a w h=>a8l hd hQ rest a w h) (d6e hnd h)
    ·exact absurd h (hQ a0 w0)
   ·simp only [hw,if_false] at h ⊢
    exact ⟨fun _ _=>trivial,a8l hd hQ rest _ w h⟩
variable {c:Ctx} {g:Gh} {σ:St} {a:Act} {w:World}
theorem c6d {id:Nat} {ops:Array Oper} {ms:List MOp} {Q:Exit→Act→World→Prop} {K:St→Prop} (hd:(ops.toList.all a3g)=true) (hQ:∀a w,¬Q .outgrown a w) (hK:∀σ' g' a' w',K σ'→Rel P c g' σ' a' w'→Q .normal a' w')
  (hok:a15 P c.nt ops ms ops.toList=true) (hR:Rel P c g σ a w) (h:runN P c.H0 ms σ K):(Code.region id ops false).wpIn (WF r) n P Q a w :=
 wpIn_region (a8l hd hQ _ _ _ (c42 hK hok hR h))
theorem c43 {id:Nat} {ops:Array Oper} {ms:List It} {Q:Exit→Act→World→Prop} {K:St→Prop} (hd:(ops.toList.all a3g)=true) (hQ:∀a w,¬Q .outgrown a w) (hK:∀σ' g' a' w',K σ'→Rel P c g' σ' a' w'→Q .normal a' w')
  (hok:a15 P c.nt ops (b2x ms) ops.toList=true) (hR:Rel P c g σ a w) (h:b9y P c.H0 ms σ K):(Code.region id ops false).wpIn (WF r) n P Q a w :=
 wpIn_region (a8l hd hQ _ _ _ (c0g hK hok hR h))
theorem c44 {id:Nat} {ops:Array Oper} {ms:List MOp} {aft anc:List (List Nat)} {Q:Exit→Act→World→Prop} {K:St→Prop} (hd:(ops.toList.all a3g)=true) (hQ:∀a w,¬Q .outgrown a w) (hmix:P.follows .mixedOrders=true)
  (hK:∀σ' g' a' w',K σ'→Rel P c g' σ' a' w'→Q .normal a' w') (hok:a15 P c.nt ops ms ops.toList=true) (haft:b3r aft ops.toList=true) (hanc:b0p anc 0 aft anc=true) (hlate:b05 ms ms anc=true) (hR:Rel P c g σ a w)
  (h:c69 P c.H0 ms [] σ fun log σ'=>a3u c.H0 σ 0 anc log.reverse=true∧K σ'):(Code.region id ops true).wpIn (WF r) n P Q a w :=
 wpIn_region_draw fun t=>a8l hd hQ _ _ _ (c0h hmix hK hok haft hanc hlate hR h t)
end
mutual
def V.within (l:List Nat):V→Bool
 | .ptr id _=>mem id l
 | .osl id _ _ _=>mem id l
 | .optr id _ _ _=>mem id l
 | .omap id=>mem id l
 | .bptr id=>mem id l
 | .agg cs=>V.withinL l cs
 | .nsl z _ _=>mem z l
 | .nsmap z _ _ _=>mem z l
 | .at_ z _=>mem z l
 | .tup cs=>V.withinL l cs
 | .fn _ cs=>V.withinL l cs
 | _=>true
def V.withinL (l:List Nat):List V→Bool
 | []=>true
 | x::r=>x.within l&&V.withinL l r
end
theorem b06 {n:Nat}:∀{l:List V},V.hasL n l=true↔∃x∈l,x.has n=true
 | []=>by simp [V.hasL]
 | y::r=>by simp [V.hasL,b06 (l:=r)]
theorem a3v {l:List Nat}:∀{cs:List V},V.withinL l cs=true↔∀x∈cs,x.within l=true
 | []=>by simp [V.withinL]
 | y::r=>by simp [V.withinL,a3v (cs:=r)]
theorem a2u {l:List Nat} {id:Nat}:∀{x:V},x.within l=true→x.has id=true→id∈l
 | .ptr i _,h,hh=>by
  simp only [V.within,V.has] at h hh
  rw [zR hh];exact mem_iff.1 h
 | .osl i _ _ _,h,hh=>by
  simp only [V.within,V.has] at h hh
  rw [zR hh];exact mem_iff.1 h
 | .optr i _ _ _,h,hh=>by
  simp only [V.within,V.has] at h hh
  rw [zR hh];exact mem_iff.1 h
 | .omap i,h,hh=>by
  simp only [V.within,V.has] at h hh
  rw [zR hh];exact mem_iff.1 h
 | .bptr i,h,hh=>by
  simp only [V.within,V.has] at h hh
  rw [zR hh];exact mem_iff.1 h
 | .nsl i _ _,h,hh=>by
  simp only [V.within,V.has] at h hh
  rw [zR hh];exact mem_iff.1 h
 | .nsmap i _ _ _,h,hh=>by
  simp only [V.within,V.has] at h hh
  rw [zR hh];exact mem_iff.1 h
 | .at_ i _,h,hh=>by
  simp only [V.within,V.has] at h hh
  rw [zR hh];exact mem_iff.1 h
 | .agg cs,h,hh=>by
  simp only [V.within,V.has] at h hh
  obtain ⟨x,hx,hxh⟩:=b06.1 hh
  exact a2u (a3v.1 h x hx) hxh
 | .tup cs,h,hh=>by
  simp only [V.within,V.has] at h hh
  obtain ⟨x,hx,hxh⟩:=b06.1 hh
  exact a2u (a3v.1 h x hx) hxh
 | .fn f cs,h,hh=>by
  simp only [V.within,V.has] at h hh
  obtain ⟨x,hx,hxh⟩:=b06.1 hh
  exact a2u (a3v.1 h x hx) hxh
 | .bool _,_,hh|.int _ _,_,hh|.str _,_,hh|.nils,_,hh|.nilp,_,hh|.nilm,_,hh|.nilf,_,hh|.nili,_,hh|.sl _,_,hh|.eptr _ _,_,hh|.any,_,hh=>by simp [V.has] at hh
def d33 (g:Gh) (H:Heap) (b:Nat):Prop:=∃id o,find id H=some o∧¬g.nil id∧(g.ρ id=b∨a4i g id o b)
def c97 (B:Nat→Prop) (W W':World):Prop :=
 W'.os=W.os∧W'.tape=W.tape∧W'.output=W.output∧W.heap.size≤W'.heap.size∧∀b,b<W.heap.size→¬B b→W'.heap[b]?=W.heap[b]?
def d4q (g:Gh) (H:Heap) (W W':World):Prop:=a1l g.S W W'∧∀b,d33 g H b→W'.heap[b]?=W.heap[b]?
def c9h (P:Program) (gf:Nat) (caps:List V) (Hc:Heap) (xss:List (List V)):Prop :=
 callable P gf=true∧∀(g:Gh) (w:World) (lb:Array Value),a2o P g w Hc→lb.size=caps.length→(∀(i:Nat) (x:V),caps[i]?=some x→VR g w (lb.getD i undef) x) →
  ∀ (l:Nat) (J:Nat→World→Prop) (Jx:World→Prop),
   (∀k W W',J k W→c97 (d33 g Hc) W W'→J k W')→(∀W W',Jx W→c97 (d33 g Hc) W W'→Jx W') →
   (∀k xs W vals,xss[k]?=some xs→vals.size=xs.length→(∀(i:Nat) (x:V),xs[i]?=some x→VR g W (vals.getD i undef) x)→J k W →
    YieldAt (WF none) 0 P l vals W fun e W'=>(e=.returned (.bool true)∧J (k+1) W'∧d4q g Hc W W')∨(e=.returned (.bool false)∧Jx W')) →
   J 0 w→CallsIn (WF none) 0 P gf (#[.func (.yield l) #[] #[]]++lb) w fun e W'=>(∃v,e=.returned v)∧(J xss.length W'∨Jx W')
structure Ctx.le (c c':Ctx):Prop where
 w0:c'.w0=c.w0
 g0:c'.g0=c.g0
 H0:c'.H0=c.H0
 nt:c'.nt=c.nt
 hm:c'.hm=c.hm
 gp:c'.gp=c.gp
 wp:c'.wp=c.wp
 kp:∃k,c'.kp=k++c.kp
 dfr:∃Ds:List Nat,c'.dfr=Ds.map (fun D=>{ target:=.collected D,args:=#[] })++c.dfr∧Ds.Nodup∧∀D∈Ds,(D,.deferred (some []))∈c'.kp∧c.free D
theorem Ctx.le.refl (c:Ctx):c.le c:=⟨rfl,rfl,rfl,rfl,rfl,rfl,rfl,⟨[],rfl⟩,⟨[],rfl,List.nodup_nil,fun _ h=>by cases h⟩⟩
theorem Ctx.le.trans {a b c:Ctx} (h:a.le b) (k:b.le c):a.le c:=by
 obtain ⟨k1,e1⟩:=h.kp
 obtain ⟨k2,e2⟩:=k.kp
 obtain ⟨D1,f1,n1,m1⟩:=h.dfr
 obtain ⟨D2,f2,n2,m2⟩:=k.dfr
 refine ⟨k.w0.trans h.w0,k.g0.trans h.g0,k.H0.trans h.H0,k.nt.trans h.nt,k.hm.trans h.hm,k.gp.trans h.gp,k.wp.trans h.wp,⟨k2++k1,by rw [e2,e1,List.append_assoc]⟩,
  ⟨D2++D1,by rw [f2,f1,List.map_append,List.append_assoc],List.nodup_append.2 ⟨n2,n1,fun x hx y hy e=>?_⟩,fun D hD=>?_⟩⟩
 ·subst e
  exact (m2 x hx).2 _ (m1 x hy).1
 ·rcases wC.1 hD with h|h
  ·exact ⟨(m2 D h).1,fun o ho=>(m2 D h).2 o (by rw [e1];exact zT _ ho)⟩
  ·exact ⟨by rw [e2];exact zT _ (m1 D h).1,(m1 D h).2⟩
section
variable {P:Program} {c c2:Ctx} {g:Gh} {σ:St} {a:Act} {w w':World}
theorem a2o.other {H:Heap} (h:a2o P g w H) (hf:Frm c g w H) (hsz:w.heap.size≤w'.heap.size) (hb:∀b,b<w.heap.size→c.free b→w'.heap[b]?=w.heap[b]?):a2o P g w' H∧a1l g.S w w':=by
 have hk:a1l g.S w w':=fun b hS=>hb b (h.lt b hS) (hf.sub b hS).2
 refine ⟨⟨fun id o ho=>(h.obj id o ho).mono (g':=g) hk (fun _ h=>h) (Gh.agree.refl _ _) (fun hn=>hb _ ((h.obj id o ho).block hn) (hf.own id o ho hn).2) (fun n _=>Gh.agree.refl _ _) hsz (fun hn _=>⟨rfl,fun b hs=>hb b ((h.obj id o ho).subBlock hn hs) (hf.own2 id o b ho hn hs).2⟩),h.inj,h.sep,fun b hS=>z7 (h.lt b hS) hsz,
  fun w2 hw2=>h.tabs w2 fun b hS=>(hw2 b hS).trans (hk b hS),h.sub1,h.sub2⟩,hk⟩
theorem Frm.other {H:Heap} {ds:List Deferred} (hf:Frm c g w H) (h:a2o P g w H) (hd:Dfr c w ds) (e0:c2.w0=c.w0) (eg:c2.g0=c.g0) (eh:c2.hm=c.hm) (hgp:∀b,c2.gp.S b→g.S b) (hpar:∀id o,find id c2.H0=some o→c2.gp.agree g id)
  (hos:w'.os=w.os) (ht:w'.tape=w.tape) (ho:w'.output=w.output) (hsz:w.heap.size≤w'.heap.size) (hb:∀b,b<w.heap.size→c.free b→w'.heap[b]?=w.heap[b]?) (hfr:∀b,b<w.heap.size→(g.S b∨d33 g H b)→c.free b→c2.free b)
  (hsb:∀b,b<c.w0.heap.size→¬c.M b→g.sub b=c2.gp.sub b):Frm c2 g w' H:=by
 have hM:∀b,c2.M b↔c.M b:=fun b=>by simp only [Ctx.M,eg,eh]
 refine ⟨by rw [e0,hos,hf.os],by rw [e0,ht,hf.tape],by rw [e0,ho,hf.output],by rw [e0];exact wV hf.size hsz,fun b hlt hm=>?_,fun id o hi hn=>⟨?_,?_⟩,fun b hS=>?_,fun b hS=>⟨?_,?_⟩,hpar,fun id o b hi hn hs=>⟨?_,?_⟩,fun b hlt hm=>?_⟩
 ·rw [e0] at hlt ⊢
  refine (hb b (z7 hlt hf.size) fun o hm'=>?_).trans (hf.old b hlt fun h=>hm ((hM b).2 h))
  rcases (hd.2.1 b o hm').1 with h1|h1
  ·omega
  ·exact hm ((hM b).2 h1)
 ·rw [e0,hM];exact (hf.own id o hi hn).1
 ·exact hfr _ ((h.obj id o hi).block hn) (.inr ⟨id,o,hi,hn,.inl rfl⟩) (hf.own id o hi hn).2
 ·rcases hS with hS|hS
  ·rw [eg] at hS;exact hf.sup b (.inl hS)
  ·exact hgp b hS
 ·rw [e0,eg,hM];exact (hf.sub b hS).1
 ·exact hfr _ (h.lt b hS) (.inl hS) (hf.sub b hS).2
 ·rw [e0,hM];exact (hf.own2 id o b hi hn hs).1
 ·exact hfr _ ((h.obj id o hi).subBlock hn hs) (.inr ⟨id,o,hi,hn,.inr hs⟩) (hf.own2 id o b hi hn hs).2
 ·exact hsb b (by rw [←e0];exact hlt) fun h=>hm ((hM b).2 h)
end
def b8k (H0:Heap) (pins:List Nat):Heap:=pins.map (fun i=>(i,a03.iter [] none))++H0
theorem b0d {H0:Heap} {id:Nat}:∀{pins:List Nat},(∃o,find id (b8k H0 pins)=some o)↔(id∈pins∨∃o,find id H0=some o)
 | []=>by simp [b8k]
 | p::r=>by
  have ih:=b0d (H0:=H0) (id:=id) (pins:=r)
  simp only [b8k] at ih
  simp only [b8k,wP,xW,find]
  cases hb:Nat.beq id p with
  | true=>simp [zR hb]
  | false =>
   have:id≠p:=fun e=>by rw [e,wW] at hb;cases hb
   simp only [vC,ih,wO,this,false_or]
def b7g:List Nat→List V→List (Nat×V)→List (Nat×V)
 | p::ps,x::xs,e=>b7g ps xs (put p x e)
 | _,_,e=>e
def c1d (pins:List Nat):List (Nat×V)→Bool
 | []=>true
 | (_,x)::r=>x.within pins&&c1d pins r
theorem b1z {pins:List Nat} {s:Nat} {x:V}:∀{e:List (Nat×V)},c1d pins e=true→find s e=some x→x.within pins=true
 | (n,y)::r,h,hf=>by
  simp only [c1d,xY] at h
  simp only [find] at hf
  cases hb:Nat.beq s n with
  | true=>rw [hb] at hf;cases hf;exact h.1
  | false=>rw [hb] at hf;exact b1z h.2 hf
def c5h (nt:Nat) (g:Gh) (w:World) (tmps:Array Value) (e:List (Nat×V)):Prop:=∀s x,find s e=some x→s<nt∧VR g w (tmps.getD s undef) x
theorem c5h.puts {nt:Nat} {g:Gh} {w:World}:∀{ps:List Nat} {xs:List V} {vs:List Value} {tmps:Array Value} {e:List (Nat×V)},c5h nt g w tmps e→tmps.size=nt→(∀p∈ps,p<nt)→xs.length=vs.length →
  (∀(i:Nat) (x:V),xs[i]?=some x→VR g w ((vs[i]?).getD undef) x) →
  c5h nt g w ((ps.zip vs).foldl (fun t (p,v)=>t.setIfInBounds p v) tmps) (b7g ps xs e)∧((ps.zip vs).foldl (fun t (p,v)=>t.setIfInBounds p v) tmps).size=nt
 | [],xs,vs,tmps,e,h,hs,_,_,_=>by cases xs<;>exact ⟨h,hs⟩
 | p::ps,[],[],tmps,e,h,hs,_,_,_=>⟨h,hs⟩
 | p::ps,x::xs,v::vs,tmps,e,h,hs,hp,hl,hv=>by
  simp only [b7g,List.zip_cons_cons,wF]
  refine c5h.puts (fun s y hy=>?_) (by simp [hs]) (fun q hq=>hp q (z3 _ hq)) (by simpa using hl) fun i y hy=>by simpa using hv (i+1) y (by simpa using hy)
  have hpn:=hp p xA
  rw [a0i] at hy
  by_cases e1:s=p
  ·subst e1
   simp at hy;subst hy
   refine ⟨hpn,?_⟩
   have:s<tmps.size:=by omega
   simpa [zC,this] using hv 0 x rfl
  ·simp only [e1,if_false] at hy
   obtain ⟨h1,h2⟩:=h s y hy
   have hne:¬p=s:=fun e=>e1 e.symm
   exact ⟨h1,by simpa [zC,zA hne] using h2⟩
inductive MC where
 | skip
 | ret
 | exit (id:Nat)
 | reg (ms:List MOp)
 | regI (its:List It)
 | regD (ms:List MOp) (aft anc:List (List Nat))
 | seq (a b:MC)
 | cut (a b:MC)
 | cond (c:Opd) (t e:MC)
 | block (id:Nat) (b:MC)
 | loop (b:MC)
 | note (n:a5r) (b:MC)
 | rngF (g:Opd) (ps:List Nat) (a b:MC)
 | no
 | hnote (T:St→(St→Prop)→Prop) (b:MC)
def d3b (n:Nat):List Nat→Bool
 | []=>true
 | x::r=>Nat.blt x n&&d3b n r
theorem c39 {n:Nat}:∀{l:List Nat},d3b n l=true→∀p∈l,p<n
 | x::r,h,p,hp=>by
  simp only [d3b,xY] at h
  rcases wO.1 hp with e|hp
  ·subst e;have:=h.1;simp [Nat.blt] at this;omega
  ·exact c39 h.2 p hp
def MC.flat:MC→Bool
 | .rngF _ _ _ _=>false
 | .hnote _ _=>false
 | .seq a b|.cut a b=>a.flat&&b.flat
 | .cond _ t e=>t.flat&&e.flat
 | .block _ b|.loop b|.note _ b=>b.flat
 | _=>true
def MC.nh:MC→Bool
 | .hnote _ _=>false
 | .seq a b|.cut a b=>a.nh&&b.nh
 | .cond _ t e=>t.nh&&e.nh
 | .block _ b|.loop b|.note _ b=>b.nh
 | _=>true
def MC.ok (P:Program) (nt:Nat):MC→Code→Bool
 | .note _ b,c=>b.ok P nt c
 | .hnote _ b,c=>b.ok P nt c
 | .no,_=>true
 | .skip,.skip=>true
 | .ret,.ret=>true
 | .exit i,.exit j=>Nat.beq i j
 | .reg ms,.region _ ops draw=>!draw&&ops.toList.all a3g&&a15 P nt ops ms ops.toList
 | .regI its,.region _ ops draw=>!draw&&ops.toList.all a3g&&a15 P nt ops (b2x its) ops.toList
 | .regD ms aft anc,.region _ ops draw=>draw&&ops.toList.all a3g&&P.follows .mixedOrders&&a15 P nt ops ms ops.toList&&b3r aft ops.toList&&b0p anc 0 aft anc&&b05 ms ms anc
 | .seq a b,.seq c d=>a.ok P nt c&&b.ok P nt d
 | .cut a b,.seq c d=>a.ok P nt c&&b.ok P nt d
 | .cond x t e,.cond y c d=>x.ok y&&t.ok P nt c&&e.ok P nt d
 | .block i b,.block j c=>Nat.beq i j&&b.ok P nt c
 | .loop b,.loop c=>b.ok P nt c
 | .rngF x ps a b,.rangeFunc y qs c d=>x.ok y&&b4s ps qs.toList&&d3b nt ps&&a.flat&&b.flat&&a.ok P nt c&&b.ok P nt d
 | _,_=>false
def b62 (c:Opd) (b:Bool) (σ:St):St :=
 match c with
 | .t s=>⟨put s (.bool b) σ.env,σ.heap⟩
 | _=>σ
def MWP (P:Program) (H0:Heap):MC→(St→Prop)→(Nat→St→Prop)→(St→Prop)→St→Prop
 | .skip,K,_,_,σ=>K σ
 | .ret,_,_,R,σ=>R σ
 | .exit id,_,X,_,σ=>X id σ
 | .reg ms,K,_,_,σ=>runN P H0 ms σ K
 | .regI its,K,_,_,σ=>b9y P H0 its σ K
 | .regD ms _ anc,K,_,_,σ=>c69 P H0 ms [] σ fun log σ'=>a3u H0 σ 0 anc log.reverse=true∧K σ'
 | .seq a b,K,X,R,σ=>MWP P H0 a (fun σ'=>MWP P H0 b K X R σ') X R σ
 | .cut a b,K,X,R,σ=>Lk (∃(α:Type) (I:α→St) (p:α→Prop) (ns:List a5r),MWP P H0 a (fun σ'=>Lk (a0f H0 ns σ' fun σ'=>∃y,p y∧a0p (I y) σ')) X R σ∧∀y,p y→factsSt (I y)→MWP P H0 b K X R (I y))
 | .cond c t e,K,X,R,σ=>match c.ev σ.env with
  | .bool b=>a4p b true (MWP P H0 t K X R (b62 c true σ)) (MWP P H0 e K X R (b62 c false σ))
  | _=>False
 | .block id b,K,X,R,σ=>MWP P H0 b K (fun i σ'=>bif Nat.beq i id then K σ' else X i σ') R σ
 | .loop b,K,X,R,σ=>Lk (∃(α:Type) (I:α→St) (p:α→Prop) (μ:α→Nat) (ns:List a5r),(a0f H0 ns σ fun σ'=>∃x,p x∧a0p (I x) σ') ∧
   ∀x,p x→factsSt (I x)→MWP P H0 b (fun σ'=>Lk (a0f H0 ns σ' fun σ'=>∃y,p y∧μ y<μ x∧a0p (I y) σ')) X R (I x))
 | .note n b,K,X,R,σ=>a0e H0 n σ fun σ'=>MWP P H0 b K X R σ'
 | .rngF s ps a b,K,X,R,σ=>match s.ev σ.env with
  | .fn (.func gf) caps=>Lk (∃(Hc:Heap) (xss:List (List V)) (pins:List Nat) (α:Type) (I:Nat→α→Heap) (p:Nat→α→Prop) (ns:List a5r),
    c9h P gf caps Hc xss∧a0p ⟨[],Hc⟩ σ∧c1d pins σ.env=true∧(∀xs∈xss,xs.length=ps.length∧V.withinL [] xs=true)∧(∃x,p 0 x∧a0p ⟨[],I 0 x⟩ σ∧∀q∈Hc,find q.1 (I 0 x)=none) ∧
    (∀k x xs,xss[k]?=some xs→p k x→b36 (I k x)→MWP P (b8k H0 pins) a (fun σ1=>MWP P (b8k H0 pins) b (fun σ'=>Lk (a0f (b8k H0 pins) ns σ' fun σ'=>∃y,p (k+1) y∧a0p ⟨[],I (k+1) y⟩ σ'))
     (fun i σ'=>X i ⟨σ.env,σ'.heap⟩) (fun σ'=>R ⟨σ.env,σ'.heap⟩) σ1) (fun _ _=>False) (fun _=>False) ⟨b7g ps xs σ.env,I k x⟩) ∧
    (∀x,p xss.length x→K ⟨σ.env,I xss.length x⟩))
  | _=>False
 | .no,_,_,_,_=>False
 | .hnote T b,K,X,R,σ=>T σ fun σ'=>MWP P H0 b K X R σ'
section
variable {P:Program} {c:Ctx}
theorem exists_least (p:Nat→Prop) (h:∃n,p n):∃n,p n∧∀m,p m→n≤m:=by
 obtain ⟨n,hn⟩:=h
 induction n using Nat.strongRecOn with
 | _ n ih =>
  by_cases hm:∃m,m<n∧p m
  ·obtain ⟨m,h1,h2⟩:=hm
   exact ih m h1 h2
  ·exact ⟨n,hn,fun m hp=>Nat.le_of_not_lt fun hlt=>hm ⟨m,hlt,hp⟩⟩
open Classical in
theorem wpIn_loop' {F:Fence} {n:Nat} {Q:Exit→Act→World→Prop} {body:Code} {α:Type} (I:α→Act→World→Prop) (μ:α→Nat) {a:Act} {w:World} (h0:∃x,I x a w)
  (round:∀x a w,I x a w→body.wpIn F n P (Exit.then (fun a' w'=>∃y,I y a' w'∧μ y<μ x) Q) a w):(Code.loop body).wpIn F n P Q a w:=by
 let p:Act→World→Nat→Prop:=fun a w n=>∃x,I x a w∧μ x=n
 let m:Act→World→Nat:=fun a w=>if h:∃n,p a w n then Classical.choose (exists_least _ h) else 0
 refine wpIn_loop (fun a w=>∃x,I x a w) m h0 fun a w hx=>?_
 have hex:∃n,p a w n:=by obtain ⟨x,hx⟩:=hx;exact ⟨_,x,hx,rfl⟩
 have hm:m a w=Classical.choose (exists_least _ hex):=by simp [m,hex]
 obtain ⟨⟨x,hI,hμ⟩,_⟩:=Classical.choose_spec (exists_least _ hex)
 refine wpIn_mono (round x a w hI) fun e a' w' hq=>?_
 cases e with
 | normal =>
  obtain ⟨y,hy,hlt⟩:=hq
  refine ⟨⟨y,hy⟩,?_⟩
  have hex':∃n,p a' w' n:=⟨_,y,hy,rfl⟩
  have hm':m a' w'=Classical.choose (exists_least _ hex'):=by simp [m,hex']
  have:=(Classical.choose_spec (exists_least _ hex')).2 (μ y) ⟨y,hy,rfl⟩
  rw [hm',hm,←hμ]
  omega
 | _=>exact hq
theorem b9k {g:Gh} {σ:St} {a:Act} {w:World} {x:Opd} {b:Bool} (h:Rel P c g σ a w) (hx:x.ev σ.env=.bool b):b62 x b σ=σ:=by
 cases x with
 | t s=>simp only [b62,a5y (b09 hx)]
 | _=>rfl
def a8b (P:Program) (c:Ctx):MC→Prop
 | .hnote T b=>(∀(K:St→Prop) (c':Ctx) (g:Gh) (σ:St) (a:Act) (w:World),c.le c'→Rel P c' g σ a w→T σ K→∃g' σ',K σ'∧Rel P c' g' σ' a w)∧a8b P c b
 | .seq a b|.cut a b=>a8b P c a∧a8b P c b
 | .cond _ t e=>a8b P c t∧a8b P c e
 | .block _ b|.loop b|.note _ b=>a8b P c b
 | _=>True
theorem a8b.of_nh:∀{mc:MC},mc.nh=true→a8b P c mc
 | .hnote _ _,h=>by cases h
 | .seq a b,h=>by simp only [MC.nh,xY] at h;exact ⟨a8b.of_nh h.1,a8b.of_nh h.2⟩
 | .cut a b,h=>by simp only [MC.nh,xY] at h;exact ⟨a8b.of_nh h.1,a8b.of_nh h.2⟩
 | .cond _ t e,h=>by simp only [MC.nh,xY] at h;exact ⟨a8b.of_nh h.1,a8b.of_nh h.2⟩
 | .block _ b,h=>by simp only [MC.nh] at h;exact a8b.of_nh (mc:=b) h
 | .loop b,h=>by simp only [MC.nh] at h;exact a8b.of_nh (mc:=b) h
 | .note _ b,h=>by simp only [MC.nh] at h;exact a8b.of_nh (mc:=b) h
 | .skip,_|.ret,_|.exit _,_|.reg _,_|.regI _,_|.regD _ _ _,_|.rngF _ _ _ _,_|.no,_=>trivial
theorem MC.flat_nh:∀{mc:MC},mc.flat=true→mc.nh=true
 | .hnote _ _,h=>by cases h
 | .seq a b,h=>by simp only [MC.flat,xY] at h;simp only [MC.nh,MC.flat_nh h.1,MC.flat_nh h.2,wR]
 | .cut a b,h=>by simp only [MC.flat,xY] at h;simp only [MC.nh,MC.flat_nh h.1,MC.flat_nh h.2,wR]
 | .cond _ t e,h=>by simp only [MC.flat,xY] at h;simp only [MC.nh,MC.flat_nh h.1,MC.flat_nh h.2,wR]
 | .block _ b,h=>by simp only [MC.flat] at h;simp only [MC.nh,MC.flat_nh (mc:=b) h]
 | .loop b,h=>by simp only [MC.flat] at h;simp only [MC.nh,MC.flat_nh (mc:=b) h]
 | .note _ b,h=>by simp only [MC.flat] at h;simp only [MC.nh,MC.flat_nh (mc:=b) h]
 | .skip,_|.ret,_|.exit _,_|.reg _,_|.regI _,_|.regD _ _ _,_|.rngF _ _ _ _,_|.no,_=>rfl
theorem a8b.mono {c':Ctx} (hl:c.le c'):∀{mc:MC},a8b P c mc→a8b P c' mc
 | .hnote _ b,h=>⟨fun K c2 g σ a w h2=>h.1 K c2 g σ a w (hl.trans h2),a8b.mono hl h.2⟩
 | .seq a b,h=>⟨a8b.mono hl h.1,a8b.mono hl h.2⟩
 | .cut a b,h=>⟨a8b.mono hl h.1,a8b.mono hl h.2⟩
 | .cond _ t e,h=>⟨a8b.mono hl h.1,a8b.mono hl h.2⟩
 | .block _ b,h=>a8b.mono (mc:=b) hl h
 | .loop b,h=>a8b.mono (mc:=b) hl h
 | .note _ b,h=>a8b.mono (mc:=b) hl h
 | .skip,_|.ret,_|.exit _,_|.reg _,_|.regI _,_|.regD _ _ _,_|.rngF _ _ _ _,_|.no,_=>trivial
def d3l (P:Program) (r:Option Nat) (mc:MC):Prop :=
 ∀ ⦃n:Nat⦄ ⦃c:Ctx⦄ ⦃code:Code⦄ ⦃Q:Exit→Act→World→Prop⦄ ⦃K:St→Prop⦄ ⦃X:Nat→St→Prop⦄ ⦃R:St→Prop⦄ ⦃g:Gh⦄ ⦃σ:St⦄ ⦃a:Act⦄ ⦃w:World⦄,a8b P c mc→(∀a w,¬Q .outgrown a w)→mc.ok P c.nt code=true→Rel P c g σ a w→MWP P c.H0 mc K X R σ →
  (∀c' σ g a w,c.le c'→K σ→Rel P c' g σ a w→Q .normal a w)→(∀c' i σ g a w,c.le c'→X i σ→Rel P c' g σ a w→Q (.exit i) a w)→(∀c' σ g a w,c.le c'→R σ→Rel P c' g σ a w→Q .ret a w)→code.wpIn (WF r) n P Q a w
section
variable {g:Gh} {w w':World} {H:Heap} {c c2 c':Ctx} {ds:List Deferred}
theorem b8l (h:a2o P g w H) (hf:Frm c g w H) (hd:Dfr c w ds) (e0:c2.w0=c.w0) (eg:c2.g0=c.g0) (eh:c2.hm=c.hm) (hgp:∀b,c2.gp.S b→g.S b) (hpar:∀id o,find id c2.H0=some o→c2.gp.agree g id)
  (hos:w'.os=w.os) (ht:w'.tape=w.tape) (ho:w'.output=w.output) (hsz:w.heap.size≤w'.heap.size) (hb:∀b,b<w.heap.size→c.free b→w'.heap[b]?=w.heap[b]?) (hfr:∀b,b<w.heap.size→(g.S b∨d33 g H b)→c.free b→c2.free b)
  (hsb:∀b,b<c.w0.heap.size→¬c.M b→g.sub b=c2.gp.sub b) :
  a2o P g w' H∧Frm c2 g w' H∧a1l g.S w w' :=
 ⟨(h.other hf hsz hb).1,hf.other h hd e0 eg eh hgp hpar hos ht ho hsz hb hfr hsb,(h.other hf hsz hb).2⟩
theorem c0q (hl:c.le c') (h:a2o P g w H) (hf:Frm c' g w H) (hd:Dfr c' w ds):Frm c g w H∧Dfr c w c.dfr:=by
 obtain ⟨k,ek⟩:=hl.kp
 have hfr:∀b,c'.free b→c.free b:=fun b hb o ho=>hb o (by rw [ek];exact zT _ ho)
 refine ⟨hf.other h hd hl.w0.symm hl.g0.symm hl.hm.symm (fun b hS=>hf.sup b (.inr (by rw [hl.gp];exact hS))) (fun id o ho=>?_) rfl rfl rfl (w8 _) (fun _ _ _=>rfl) (fun b _ _=>hfr b) (fun b hb hm=>by rw [←hl.gp];exact hf.sb b hb hm),rfl,fun b o ho=>?_,?_⟩
 ·rw [←hl.gp];exact hf.par id o (by rw [hl.H0];exact ho)
 ·have:=hd.2.1 b o (by rw [ek];exact zT _ ho)
  simp only [Ctx.M,hl.w0,hl.hm,hl.g0] at this ⊢;exact this
 ·have:=hd.2.2
  rwa [hl.gp,hl.wp] at this
end
theorem b7s {α:Type} {n:Nat} {x:α}:∀{l:List (Nat×α)},find n l=some x→(n,x)∈l
 | (m,y)::r,h=>by
  simp only [find] at h
  cases hb:Nat.beq n m with
  | true=>rw [hb] at h;cases h;rw [zR hb];exact xA
  | false=>rw [hb] at h;exact z3 _ (b7s h)
theorem d0s (g:Gh) (i:Nat) (o:a03):∃bl:List Nat,∀b,b∈bl↔(g.ρ i=b∨a4i g i o b):=by
 by_cases h:∃k xss,o=.rws k xss
 ·obtain ⟨k,xss,rfl⟩:=h
  refine ⟨g.ρ i::(List.range xss.length).filterMap fun j=>(g.sub (g.ρ i) j).map (·.1),fun b=>?_⟩
  simp only [wO,List.mem_filterMap,List.mem_range,zO]
  constructor
  ·rintro (rfl|⟨j,hj,⟨b',c⟩,e,rfl⟩)
   ·exact .inl rfl
   ·exact .inr ⟨k,xss,j,c,rfl,hj,e⟩
  ·rintro (rfl|⟨k',xss',j,c,e1,hj,e⟩)
   ·exact .inl rfl
   ·cases e1;exact .inr ⟨j,hj,(b,c),e,rfl⟩
 ·refine ⟨[g.ρ i],fun b=>?_⟩
  rw [z9]
  constructor
  ·rintro rfl;exact .inl rfl
  ·rintro (rfl|⟨k,xss,_,_,e,_⟩)
   ·rfl
   ·exact absurd ⟨k,xss,e⟩ h
open Classical in
theorem c8o (g:Gh) (Hc:Heap):∃bl:List Nat,∀b,b∈bl↔d33 g Hc b:=by
 have key:∀l:List Nat,∃bl:List Nat,∀b,b∈bl↔∃id,id∈l∧∃o,find id Hc=some o∧¬g.nil id∧(g.ρ id=b∨a4i g id o b):=fun l=>by
  induction l with
  | nil=>exact ⟨[],fun b=>by simp⟩
  | cons i r ih =>
   obtain ⟨bl,h⟩:=ih
   by_cases hc:∃o,find i Hc=some o∧¬g.nil i
   ·obtain ⟨o,hc,hn⟩:=hc
    obtain ⟨ol,ho⟩:=d0s g i o
    refine ⟨ol++bl,fun b=>?_⟩
    rw [wC,h,ho]
    constructor
    ·rintro (h1|⟨id,h1,h2⟩)
     ·exact ⟨i,by simp,o,hc,hn,h1⟩
     ·exact ⟨id,by simp [h1],h2⟩
    ·rintro ⟨id,h1,o',h2,h3,h4⟩
     rcases wO.1 h1 with rfl|h1
     ·rw [hc] at h2;cases h2;exact .inl h4
     ·exact .inr ⟨id,h1,o',h2,h3,h4⟩
   ·refine ⟨bl,fun b=>?_⟩
    rw [h]
    constructor
    ·rintro ⟨id,h1,h2⟩;exact ⟨id,by simp [h1],h2⟩
    ·rintro ⟨id,h1,o',h2,h3,h4⟩
     rcases wO.1 h1 with rfl|h1
     ·exact absurd ⟨o',h2,h3⟩ hc
     ·exact ⟨id,h1,o',h2,h3,h4⟩
 obtain ⟨bl,h⟩:=key (Hc.map (·.1))
 refine ⟨bl,fun b=>(h b).trans ⟨?_,?_⟩⟩
 ·rintro ⟨id,_,o,h1,h2,h3⟩;exact ⟨id,o,h1,h2,h3⟩
 ·rintro ⟨id,o,h1,h2,h3⟩;exact ⟨id,wZ.2 ⟨(id,o),b7s h1,rfl⟩,o,h1,h2,h3⟩
theorem c41 (s:Opd) (ps:List Nat) (a b:MC) (ha:∀l,a.flat=true→d3l P (some l) a) (hb:∀l,b.flat=true→d3l P (some l) b):d3l P none (.rngF s ps a b):=by
 intro n c code Q K X R g σ ac w hN hQ hok hR h hK hX hT
 cases code<;>try (simp [MC.ok] at hok;done)
 rename_i y qs casg cbody
 simp only [MC.ok,xY] at hok
 obtain ⟨⟨⟨⟨⟨⟨h1,h2⟩,h3⟩,h4⟩,h5⟩,h6⟩,h7⟩:=hok
 have hps:=b4r h2
 simp only [MWP] at h
 split at h
 case h_2=>exact h.elim
 rename_i gf caps hev
 have hv:=Opd.vr hR h1
 rw [hev] at hv
 obtain ⟨lb,ev,hlb,hvl⟩:=hv.fn_inv
 obtain ⟨Hc,xss,pins,α,I,p,ns,⟨hcb,hit⟩,hsc,hpin,hxs,⟨x0,hp0,hs0,hdis⟩,round,hdone⟩:=Lk.out h
 have hRc:=hR.subSt hsc
 obtain ⟨bl,hbl⟩:=c8o g Hc
 have hblw:∀k,k∈bl→k<w.heap.size∧c.free k∧(c.w0.heap.size≤k∨c.M k)∧¬g.S k:=fun k hk=>by
  obtain ⟨id,o,h1,h2,h3⟩:=(hbl k).1 hk
  exact ⟨(hRc.hp.obj id o h1).owb h2 h3,(hRc.fr.owb h1 h2 h3).2,(hRc.fr.owb h1 h2 h3).1,hRc.hp.owS h1 h2 h3⟩
 refine wpIn_rangeFunc ?_
 intro fn _
 obtain ⟨rec,hrec⟩:∃rec:LoopState→Option Code→Loop,rec=fun st pe=>{ state:=st,pending:=pe,fn,tmps:=ac.tmps,params:=qs,assign:=casg,body:=cbody,defers:=w.heap.size }:=⟨_,rfl⟩
 obtain ⟨W1,hW1⟩:∃W1,(w.alloc (.deferred (some []))).alloc (.loop (rec .ready none))=W1:=⟨_,rfl⟩
 have hsz1:W1.heap.size=w.heap.size+2:=by rw [←hW1];simp
 have hL1:W1.heap[w.heap.size+1]?=some (.loop (rec .ready none)):=by
  rw [←hW1];have:=World.alloc_heap_new (w.alloc (.deferred (some []))) (.loop (rec .ready none));rwa [World.size_alloc] at this
 have hK1:W1.heap[w.heap.size]?=some (.deferred (some [])):=by
  rw [←hW1];exact (Below.heap_alloc _ _ _ (by simp)).trans (World.alloc_heap_new w _)
 have hO1:∀k,k<w.heap.size→W1.heap[k]?=w.heap[k]?:=fun k hk=>by
  rw [←hW1];exact (Below.heap_alloc _ _ _ (by simp;omega)).trans (Below.heap_alloc _ _ _ hk)
 obtain ⟨cJ,hcJ⟩:∃cJ:(Nat→Obj)→LoopState→Option Code→Ctx,cJ=fun cs st pe=>{ c with H0:=b8k c.H0 pins,gp:=g,wp:=w,dfr:=[],kp:=(w.heap.size+1,.loop (rec st pe))::(w.heap.size,.deferred (some []))::(bl.map (fun b=>(b,cs b))++c.kp) }:=⟨_,rfl⟩
 have hkpw:∀k o,(k,o)∈c.kp→k<w.heap.size:=fun k o ho=>(zF.1 (hR.dfr.2.1 k o ho).2).1
 have hkpt:∀(cs:Nat→Obj) k o,(k,o)∈(w.heap.size,Obj.deferred (some []))::(bl.map (fun b=>(b,cs b))++c.kp)→k≠w.heap.size+1:=fun cs k o ho=>by
  rcases wO.1 ho with e|ho
  ·cases e;omega
  rcases wC.1 ho with ho|ho
  ·obtain ⟨q,hq,e⟩:=wZ.1 ho
   cases e;have:=(hblw k hq).1;omega
  ·have:=hkpw k o ho;omega
 have hkp2:∀(cs:Nat→Obj) k o,(k,o)∈(w.heap.size,Obj.deferred (some []))::c.kp→(k,o)∈(w.heap.size,Obj.deferred (some []))::(bl.map (fun b=>(b,cs b))++c.kp):=fun cs k o ho=>by
  rcases wO.1 ho with e|ho
  ·rw [e];exact xA
  ·exact z3 _ (zT _ ho)
 have hfree:∀cs st pe k,(cJ cs st pe).free k↔(k≠w.heap.size+1∧k≠w.heap.size∧k∉bl∧c.free k):=fun cs st pe k=>by
  rw [hcJ]
  constructor
  ·intro h
   exact ⟨fun e=>h _ (by rw [e];exact xA),fun e=>h _ (by rw [e];exact z3 _ xA),fun e=>h (cs k) (z3 _ (z3 _ (List.mem_append_left _ (wZ.2 ⟨k,e,rfl⟩)))),fun o ho=>h o (z3 _ (z3 _ (zT _ ho)))⟩
  ·rintro ⟨e1,e2,e4,e3⟩ o ho
   rcases wO.1 ho with e|ho
   ·exact e1 (by cases e;rfl)
   rcases wO.1 ho with e|ho
   ·exact e2 (by cases e;rfl)
   rcases wC.1 ho with ho|ho
   ·obtain ⟨q,hq,e⟩:=wZ.1 ho
    cases e;exact e4 hq
   ·exact e3 o ho
 have hsupJ:∀{cs st pe gb W HH},Frm (cJ cs st pe) gb W HH→∀k,g.S k→gb.S k:=fun hf k hS=>hf.sup k (.inr (by rw [hcJ];exact hS))
 have hparJ:∀{cs st pe gb W HH},Frm (cJ cs st pe) gb W HH→∀cs' st' pe' id o,find id (cJ cs' st' pe').H0=some o→(cJ cs' st' pe').gp.agree gb id:=fun hf cs' st' pe' id o ho=>by
  have:=hf.par id o (by rw [hcJ] at ho ⊢;exact ho)
  rw [hcJ] at this ⊢;exact this
 have hsbJ:∀{cs st pe gb W HH},Frm (cJ cs st pe) gb W HH→∀cs' st' pe' b,b<(cJ cs st pe).w0.heap.size→¬(cJ cs st pe).M b→gb.sub b=(cJ cs' st' pe').gp.sub b:=fun hf cs' st' pe' b hb hm=>by
  have:=hf.sb b hb hm
  rw [hcJ] at this ⊢;exact this
 have turn:∀{cs st pe gb W HH} (st':LoopState) (pe':Option Code),a2o P gb W HH→Frm (cJ cs st pe) gb W HH→Dfr (cJ cs st pe) W [] →
   a2o P gb (W.putObj (w.heap.size+1) (.loop (rec st' pe'))) HH∧Frm (cJ cs st' pe') gb (W.putObj (w.heap.size+1) (.loop (rec st' pe'))) HH∧Dfr (cJ cs st' pe') (W.putObj (w.heap.size+1) (.loop (rec st' pe'))) []∧a1l gb.S W (W.putObj (w.heap.size+1) (.loop (rec st' pe'))):=by
  intro cs st pe gb W HH st' pe' hh hf hd
  obtain ⟨k1,k2,k3⟩:=b8l (c2:=cJ cs st' pe') (w':=W.putObj (w.heap.size+1) (.loop (rec st' pe'))) hh hf hd (by rw [hcJ]) (by rw [hcJ]) (by rw [hcJ]) (fun k hS=>hsupJ hf k (by rw [hcJ] at hS;exact hS)) (hparJ hf cs st' pe') rfl rfl rfl (by simp)
   (fun k _ hk=>World.putObj_heap_other ((hfree cs st pe k).1 hk).1) (fun k _ _ hk=>(hfree cs st' pe' k).2 ((hfree cs st pe k).1 hk)) (hsbJ hf cs st' pe')
  have hl:W.heap[w.heap.size+1]?=some (.loop (rec st pe)):=(hd.2.1 _ _ (by rw [hcJ];exact xA)).2
  refine ⟨k1,k2,⟨by rw [hcJ],fun k o ho=>?_,fun k hS=>?_⟩,k3⟩
  ·rw [hcJ] at ho
   rcases wO.1 ho with e|ho'
   ·cases e
    exact ⟨by have:=(hd.2.1 (w.heap.size+1) _ (by rw [hcJ];exact xA)).1;rw [hcJ] at this ⊢;exact this,World.putObj_heap_same (zF.1 hl).1⟩
   ·have hne:k≠w.heap.size+1:=hkpt cs k o ho'
    have:=hd.2.1 k o (by rw [hcJ];exact z3 _ ho')
    refine ⟨?_,(World.putObj_heap_other hne).trans this.2⟩
    have h0:=this.1
    rw [hcJ] at h0 ⊢;exact h0
  ·rw [hcJ] at hS
   have h0:=hd.2.2 k (by rw [hcJ];exact hS)
   refine (k3 k (hsupJ hf k hS)).trans ?_
   rw [hcJ] at h0 ⊢;exact h0
 obtain ⟨J,hJ⟩:∃J:Nat→World→Prop,J=fun k W=>∃cs gb y,p k y∧(⟨[],I k y⟩:St).good=true∧a2o P gb W (I k y)∧Frm (cJ cs .ready none) gb W (I k y)∧Dfr (cJ cs .ready none) W []:=⟨_,rfl⟩
 obtain ⟨Jx,hJx⟩:∃Jx:World→Prop,Jx=fun W=>∃cs gb HH jump,((jump=Code.ret∧R ⟨σ.env,HH⟩)∨∃i,jump=Code.exit i∧X i ⟨σ.env,HH⟩)∧a2o P gb W HH∧Frm (cJ cs .done (some jump)) gb W HH∧Dfr (cJ cs .done (some jump)) W []:=⟨_,rfl⟩
 have still:∀{cs st pe gb HH W W'},a2o P gb W HH→Frm (cJ cs st pe) gb W HH→Dfr (cJ cs st pe) W []→c97 (d33 g Hc) W W'→∃cs',a2o P gb W' HH∧Frm (cJ cs' st pe) gb W' HH∧Dfr (cJ cs' st pe) W' []:=by
  intro cs st pe gb HH W W' hh hf hd ⟨i1,i2,i3,i4,i5⟩
  obtain ⟨cs',hcs'⟩:∃cs':Nat→Obj,cs'=fun k=>(W'.heap[k]?).getD (.deferred none):=⟨_,rfl⟩
  have hfr:∀k,(cJ cs st pe).free k→(cJ cs' st pe).free k:=fun k h=>(hfree cs' st pe k).2 ((hfree cs st pe k).1 h)
  obtain ⟨k1,k2,k3⟩:=b8l (c2:=cJ cs' st pe) hh hf hd (by rw [hcJ]) (by rw [hcJ]) (by rw [hcJ]) (fun k hS=>hsupJ hf k (by rw [hcJ] at hS;exact hS)) (hparJ hf cs' st pe) i1 i2 i3 i4 (fun k hk hfk=>i5 k hk fun hb=>((hfree cs st pe k).1 hfk).2.2.1 ((hbl k).2 hb)) (fun k _ _ h=>hfr k h) (hsbJ hf cs' st pe)
  have hW:∀k o,(k,o)∈(cJ cs st pe).kp→k<W.heap.size:=fun k o ho=>(zF.1 (hd.2.1 k o ho).2).1
  refine ⟨cs',k1,k2,by rw [hcJ],fun k o ho=>?_,fun k hS=>(k3 k (hsupJ hf k (by rw [hcJ] at hS;exact hS))).trans (by have:=hd.2.2 k (by rw [hcJ] at hS ⊢;exact hS);rw [hcJ] at this ⊢;exact this)⟩
  have out:k∉bl→(k,o)∈(cJ cs st pe).kp→((cJ cs' st pe).w0.heap.size≤k∨(cJ cs' st pe).M k)∧W'.heap[k]?=some o:=fun hk hm=>by
   have:=hd.2.1 k o hm
   refine ⟨?_,(i5 k (hW k o hm) fun hb=>hk ((hbl k).2 hb)).trans this.2⟩
   have h0:=this.1
   rw [hcJ] at h0 ⊢;exact h0
  rw [hcJ] at ho
  rcases wO.1 ho with e|ho
  ·cases e
   exact out (fun hk=>by have:=(hblw _ hk).1;omega) (by rw [hcJ];exact xA)
  rcases wO.1 ho with e|ho
  ·cases e
   exact out (fun hk=>by have:=(hblw _ hk).1;omega) (by rw [hcJ];exact z3 _ xA)
  rcases wC.1 ho with ho|ho
  ·obtain ⟨q,hq,e⟩:=wZ.1 ho
   cases e
   have hlt:=hW k (cs k) (by rw [hcJ];exact z3 _ (z3 _ (List.mem_append_left _ (wZ.2 ⟨k,hq,rfl⟩))))
   have hlt':k<W'.heap.size:=by omega
   refine ⟨by rw [hcJ];exact (hblw k hq).2.2.1,?_⟩
   simp only [hcs',zI hlt',xP]
  ·exact out (fun hk=>(hblw _ hk).2.1 o ho) (by rw [hcJ];exact z3 _ (z3 _ (zT _ ho)))
 have fin:∀{cs st pe gb HH W} (o:Obj),a2o P gb W HH→Frm (cJ cs st pe) gb W HH→Dfr (cJ cs st pe) W [] →
   ∃c2,c.le c2∧Rel P c2 gb ⟨σ.env,HH⟩ { ac with defers:=[{ target:=.collected w.heap.size,args:=#[] }]++ac.defers } (W.putObj (w.heap.size+1) o):=by
  intro cs st pe gb HH W o hh hf hd
  refine ⟨{ c with dfr:={ target:=.collected w.heap.size,args:=#[] }::c.dfr,kp:=(w.heap.size,.deferred (some []))::c.kp },⟨rfl,rfl,rfl,rfl,rfl,rfl,rfl,⟨[_],rfl⟩,⟨[w.heap.size],rfl,by simp,fun D hD=>?_⟩⟩,?_⟩
  ·simp at hD;subst hD
   exact ⟨xA,fun o ho=>by have:=hkpw _ o ho;omega⟩
  have hgS:∀k,c.gp.S k→g.S k:=fun k hS=>hR.fr.sup k (.inr hS)
  obtain ⟨k1,k2,k3⟩:=b8l (c2:={ c with dfr:={ target:=.collected w.heap.size,args:=#[] }::c.dfr,kp:=(w.heap.size,.deferred (some []))::c.kp }) (w':=W.putObj (w.heap.size+1) o) hh hf hd (by rw [hcJ]) (by rw [hcJ]) (by rw [hcJ])
   (fun k hS=>hsupJ hf k (hgS k hS)) (fun id o1 ho=>(hR.fr.par id o1 ho).trans (by
    obtain ⟨o2,h2⟩:=(b0d (H0:=c.H0) (pins:=pins) (id:=id)).2 (.inr ⟨o1,ho⟩)
    have:=hparJ hf cs st pe id o2 (by rw [hcJ];exact h2)
    rw [hcJ] at this;exact this)) rfl rfl rfl (by simp) (fun k _ hk=>World.putObj_heap_other ((hfree cs st pe k).1 hk).1)
   (fun k _ _ hk o1 ho=>by
    obtain ⟨_,e2,_,e3⟩:=(hfree cs st pe k).1 hk
    rcases wO.1 ho with e|ho
    ·cases e;exact e2 rfl
    ·exact e3 o1 ho)
   (fun b hb hm=>(hsbJ hf cs st pe b hb hm).trans (by rw [hcJ] at hb hm ⊢;exact hR.fr.sb b hb hm))
  have hkS:a1l g.S w (W.putObj (w.heap.size+1) o):=fun k hS=>(k3 k (hsupJ hf k hS)).trans (by have:=hd.2.2;rw [hcJ] at this;exact this k hS)
  refine ⟨hR.size,⟨by rw [hR.dfr.1];rfl,fun k o1 ho=>?_,fun k hS=>(hkS k (hgS k hS)).trans (hR.dfr.2.2 k hS)⟩,fun t x hx=>?_,k1,k2⟩
  ·have hne:k≠w.heap.size+1:=by
    rcases wO.1 ho with e|ho'
    ·cases e;omega
    ·have:=hkpw k o1 ho';omega
   have:=hd.2.1 k o1 (by rw [hcJ];exact z3 _ (hkp2 cs k o1 ho))
   refine ⟨?_,(World.putObj_heap_other hne).trans this.2⟩
   have h0:=this.1
   rw [hcJ] at h0;exact h0
  ·obtain ⟨q1,q2⟩:=hR.env t x hx
   refine ⟨q1,q2.mono hkS (hsupJ hf) fun id hid=>?_⟩
   obtain ⟨o2,h2⟩:=(b0d (H0:=c.H0) (pins:=pins) (id:=id)).2 (.inl (a2u (b1z hpin hx) hid))
   have:=hparJ hf cs st pe id o2 (by rw [hcJ];exact h2)
   rw [hcJ] at this;exact this
 obtain ⟨cs0,hcs0⟩:∃cs0:Nat→Obj,cs0=fun k=>(W1.heap[k]?).getD (.deferred none):=⟨_,rfl⟩
 have h0:J 0 W1:=by
  rw [hJ]
  have hR0:a2o P g w (I 0 x0)∧Frm c g w (I 0 x0):=by
   have:=hR.subSt hs0
   exact ⟨this.hp,this.fr⟩
  have hnb:∀k,(g.S k∨d33 g (I 0 x0) k)→k∉bl:=fun k hk hb=>by
   rcases hk with hk|⟨id,o,h1,h2,h6⟩
   ·exact (hblw k hb).2.2.2 hk
   ·obtain ⟨id',o',h3,h4,h5⟩:=(hbl _).1 hb
    have e:=hR.hp.ow (a8j hsc.2.2 h3) (a8j hs0.2.2 h1) h4 h2 h5 h6
    subst e
    have:=hdis (id',o') (b7s h3)
    rw [h1] at this;cases this
  obtain ⟨k1,k2,k3⟩:=b8l (c2:=cJ cs0 .ready none) (w':=W1) hR0.1 hR0.2 hR.dfr (by rw [hcJ]) (by rw [hcJ]) (by rw [hcJ]) (fun k hS=>by rw [hcJ] at hS;exact hS) (fun id o _=>by rw [hcJ];exact Gh.agree.refl g id) (by rw [←hW1];rfl) (by rw [←hW1];rfl) (by rw [←hW1];rfl) (by omega)
   (fun k hk _=>hO1 k hk) (fun k hk hb hf=>(hfree _ _ _ k).2 ⟨by omega,by omega,hnb k hb,hf⟩) (fun b _ _=>by rw [hcJ])
  refine ⟨cs0,g,x0,hp0,hs0.1,k1,k2,by rw [hcJ],fun k o ho=>?_,fun k hS=>?_⟩
  ·rw [hcJ] at ho
   have hle:=hR.fr.size
   rcases wO.1 ho with e|ho
   ·cases e;exact ⟨.inl (by rw [hcJ];show c.w0.heap.size≤_;omega),hL1⟩
   rcases wO.1 ho with e|ho
   ·cases e;exact ⟨.inl (by rw [hcJ];exact hle),hK1⟩
   rcases wC.1 ho with ho|ho
   ·obtain ⟨q,hq,e⟩:=wZ.1 ho
    cases e
    have hlt:=(hblw k hq).1
    refine ⟨by rw [hcJ];exact (hblw k hq).2.2.1,?_⟩
    have hlt':k<W1.heap.size:=by omega
    simp only [hcs0,zI hlt',xP]
   ·refine ⟨by rw [hcJ];exact (hR.dfr.2.1 k o ho).1,(hO1 k (hkpw k o ho)).trans (hR.dfr.2.1 k o ho).2⟩
  ·rw [hcJ] at hS ⊢;exact k3 k hS
 have hHR1:a2o P g W1 Hc∧a1l g.S w W1:=by
  have:=a2o.other (w':=W1) hRc.hp hRc.fr (by omega) fun k hk _=>hO1 k hk
  exact this
 have pinag:∀{cs st pe gb W HH},Frm (cJ cs st pe) gb W HH→∀t x,find t σ.env=some x→∀id,x.has id=true→g.agree gb id:=fun hf t x hx id hid=>by
  obtain ⟨o2,h2⟩:=(b0d (H0:=c.H0) (pins:=pins) (id:=id)).2 (.inl (a2u (b1z hpin hx) hid))
  have:=hparJ hf cs0 .ready none id o2 (by rw [hcJ];exact h2)
  rw [hcJ] at this;exact this
 have recAt:∀{cs st pe W ds},Dfr (cJ cs st pe) W ds→W.heap[w.heap.size+1]?=some (.loop (rec st pe)):=fun hd=>(hd.2.1 _ _ (by rw [hcJ];exact xA)).2
 have keepJ:∀{cs st pe W ds},Dfr (cJ cs st pe) W ds→a1l g.S w W:=fun hd=>by have:=hd.2.2;rw [hcJ] at this;exact this
 have rs:∀st pe st' pe',({ rec st pe with state:=st',pending:=pe' }:Loop)=rec st' pe':=fun _ _ _ _=>by rw [hrec]
 have rs1:∀st pe st',({ rec st pe with state:=st' }:Loop)=rec st' pe:=fun _ _ _=>by rw [hrec]
 refine ⟨w.heap.size+1,[{ target:=.collected w.heap.size,args:=#[] }],W1,{ target:=.fn (.func gf) lb,args:=#[.func (.yield (w.heap.size+1)) #[] #[]] },W1,gf,#[.func (.yield (w.heap.size+1)) #[] #[]]++lb,W1,?_,?_,fun _ _=>trivial,?_,fun hh=>by simp [WF,Fence.wide] at hh,?_⟩
 ·rw [←hW1,hrec];exact run_enterLoop_outer _ _ _ _ _
 ·simp only [resolve,ev]
  simp [Deferred.ofValue]
  rfl
 ·unfold callable at hcb
  split at hcb
  ·rename_i fn' hfn'
   simp only [xY,xO] at hcb
   have hnm:¬fn'.name = "runtime.NumGoroutine":=by simpa using hcb.1
   have hbb:¬fn'.body=none:=by intro h;rw [h] at hcb;simp at hcb
   simp [invoke,callFunc,hfn',hnm,hbb]
  ·cases hcb
 ·refine ((hit g W1 lb hHR1.1 hlb (fun i x hx=>(hvl i x hx).mono (g':=g) hHR1.2 (fun _ h=>h) fun _ _=>Gh.agree.refl _ _) (w.heap.size+1) J Jx ?_ ?_ ?_ h0).more (w6 _)).mono ?_
  ·intro k W W' hj hs
   rw [hJ] at hj ⊢
   obtain ⟨cs,gb,y,hp,hgd,hh,hf,hd⟩:=hj
   obtain ⟨cs',k1,k2,k3⟩:=still hh hf hd hs
   exact ⟨cs',gb,y,hp,hgd,k1,k2,k3⟩
  ·intro W W' hj hs
   rw [hJx] at hj ⊢
   obtain ⟨cs,gb,HH,jump,hj,hh,hf,hd⟩:=hj
   obtain ⟨cs',k1,k2,k3⟩:=still hh hf hd hs
   exact ⟨cs',gb,HH,jump,hj,k1,k2,k3⟩
  ·intro k xs W vals hxk hvs hvv hj
   rw [hJ] at hj
   obtain ⟨cs,gb,y,hp,hgd,hh,hf,hd⟩:=hj
   have hl:=recAt hd
   obtain ⟨hxl,hxw⟩:=hxs xs (zZ hxk)
   have hy:=run_yield (P:=P) (args:=vals) hl (by rw [hrec];show vals.size=qs.size;rw [hvs,hxl,hps];simp)
   rw [hrec] at hy
   refine ⟨_,_,_,_,hy,roundIn_of_wpIn trivial ?_⟩
   have hE0:c5h c.nt gb W ac.tmps σ.env:=fun t x hx=>by
    obtain ⟨q1,q2⟩:=hR.env t x hx
    exact ⟨q1,q2.mono (keepJ hd) (hsupJ hf) (pinag hf t x hx)⟩
   obtain ⟨hE,hEs⟩:=hE0.puts (ps:=ps) (xs:=xs) (vs:=vals.toList) hR.size (c39 h3) (by simp [hvs]) (fun i x hx=>by
    have:=(hvv i x hx).mono (g':=gb) (fun _ _=>rfl) (hsupJ hf) fun id hid=>absurd (a2u (a3v.1 hxw x (zZ hx)) hid) (by simp)
    simpa [zC] using this)
   have hfold:(qs.zip vals).foldl (fun t (q,v)=>t.setIfInBounds q v) ac.tmps=(ps.zip vals.toList).foldl (fun t (p,v)=>t.setIfInBounds p v) ac.tmps:=by
    rw [←Array.foldl_toList,Array.toList_zip,hps]
   have hRb:Rel P (cJ cs .ready none) gb ⟨b7g ps xs σ.env,I k y⟩ { tmps:=(qs.zip vals).foldl (fun t (q,v)=>t.setIfInBounds q v) ac.tmps,defers:=[] } W:=by
    refine ⟨?_,hd,?_,hh,hf⟩
    ·show ((qs.zip vals).foldl _ ac.tmps).size=_
     rw [hfold,hEs,hcJ]
    ·show c5h _ gb W ((qs.zip vals).foldl _ ac.tmps) _
     rw [hfold,hcJ];exact hE
   have hfacts:b36 (I k y):=by
    have:Rel P (cJ cs .ready none) gb ⟨[],I k y⟩ { tmps:=(qs.zip vals).foldl (fun t (q,v)=>t.setIfInBounds q v) ac.tmps,defers:=[] } W:=⟨hRb.size,hRb.dfr,fun _ _ h=>(by cases h),hh,hf⟩
    exact (this.factsSt hgd).2
   have hm:=round k y xs hxk hp hfacts
   have hH0:∀cs st pe,(cJ cs st pe).H0=b8k c.H0 pins:=fun _ _ _=>by rw [hcJ]
   have hnt:∀cs st pe,(cJ cs st pe).nt=c.nt:=fun _ _ _=>by rw [hcJ]
   rw [←hH0 cs .ready none] at hm
   refine ha (w.heap.size+1) h4 (c:=cJ cs .ready none) (a8b.of_nh (MC.flat_nh h4)) (fun _ _ h=>h) (by rw [hnt];exact h6) hRb hm (fun c1 σ1 g1 a1 w1 hl1 hk1 hr1=>?_) (fun _ _ _ _ _ _ _ h=>h.elim) (fun _ _ _ _ _ _ h=>h.elim)
   obtain ⟨f1,d1⟩:=c0q hl1 hr1.hp hr1.fr hr1.dfr
   have d1':Dfr (cJ cs .ready none) w1 []:=by rw [hcJ] at d1 ⊢;exact d1
   obtain ⟨t1,t2,t3,t4⟩:=turn .busy none hr1.hp f1 d1'
   refine ⟨_,run_beginRound (recAt d1') (by rw [hrec]),?_⟩
   rw [rs1]
   obtain ⟨c2,hc2⟩:∃c2:Ctx,c2={ cJ cs .busy none with dfr:=a1.defers }:=⟨_,rfl⟩
   have toJ:∀{gx Wx Hx ds},a2o P gx Wx Hx→Frm c2 gx Wx Hx→Dfr c2 Wx ds→Frm (cJ cs .busy none) gx Wx Hx∧Dfr (cJ cs .busy none) Wx []:=fun hh hf hd=>by
    rw [hc2] at hf hd
    exact ⟨⟨hf.os,hf.tape,hf.output,hf.size,hf.old,hf.own,hf.sup,hf.sub,hf.par,hf.own2,hf.sb⟩,⟨by rw [hcJ],hd.2⟩⟩
   have hR2:Rel P c2 g1 σ1 a1 (w1.putObj (w.heap.size+1) (.loop (rec .busy none))):=by
    rw [hc2]
    refine ⟨?_,⟨rfl,t3.2⟩,fun t x hx=>?_,t1,⟨t2.os,t2.tape,t2.output,t2.size,t2.old,t2.own,t2.sup,t2.sub,t2.par,t2.own2,t2.sb⟩⟩
    ·rw [hr1.size,hl1.nt,hnt];exact (hnt cs .busy none).symm
    ·obtain ⟨q1,q2⟩:=hr1.env t x hx
     refine ⟨?_,q2.mono (g':=g1) t4 (fun _ h=>h) fun _ _=>Gh.agree.refl _ _⟩
     rw [hl1.nt,hnt] at q1
     show t<(cJ cs .busy none).nt
     rw [hnt];exact q1
   have h20:c2.H0=b8k c.H0 pins:=by rw [hc2];exact hH0 cs .busy none
   have h2n:c2.nt=c.nt:=by rw [hc2];exact hnt cs .busy none
   rw [hH0,←h20] at hk1
   have leave:∀(jump:Code) {c3:Ctx} {σ3:St} {g3:Gh} {a3:Act} {w3:World},c2.le c3→Rel P c3 g3 σ3 a3 w3→((jump=Code.ret∧R ⟨σ.env,σ3.heap⟩)∨∃i,jump=Code.exit i∧X i ⟨σ.env,σ3.heap⟩) →
     ∃v w',(Instr.endRound (w.heap.size+1) (some jump)).run P w3=.ok v w'∧((Ending.returned v=.returned (.bool true)∧J (k+1) w'∧d4q g Hc W w')∨(Ending.returned v=.returned (.bool false)∧Jx w')):=by
    intro jump c3 σ3 g3 a3 w3 hl3 hr3 hj
    obtain ⟨f3,d3⟩:=c0q hl3 hr3.hp hr3.fr hr3.dfr
    obtain ⟨f3,d3⟩:=toJ hr3.hp f3 d3
    obtain ⟨t1,t2,t3,t4⟩:=turn .done (some jump) hr3.hp f3 d3
    have hrun:=run_endRound (P:=P) (some jump) (recAt d3)
    simp only [Option.isNone_some,xF,if_false,rs] at hrun
    refine ⟨_,_,hrun,.inr ⟨rfl,?_⟩⟩
    rw [hJx]
    exact ⟨cs,g3,σ3.heap,jump,hj,t1,t2,t3⟩
   refine hb (w.heap.size+1) h5 (c:=c2) (a8b.of_nh (MC.flat_nh h5)) (fun _ _ h=>h) (by rw [h2n];exact h7) hR2 hk1 (fun c3 σ3 g3 a3 w3 hl3 hk3 hr3=>?_) (fun c3 i σ3 g3 a3 w3 hl3 hk3 hr3=>?_) (fun c3 σ3 g3 a3 w3 hl3 hk3 hr3=>?_)
   ·have hk3:=Lk.out hk3
    rw [←hl3.H0] at hk3
    obtain ⟨g4,σ4,⟨y',hp',hs'⟩,hr4⟩:=a8m hk3 hr3
    have hr4:=hr4.subSt hs'
    obtain ⟨f3,d3⟩:=c0q hl3 hr4.hp hr4.fr hr4.dfr
    obtain ⟨f3,d3⟩:=toJ hr4.hp f3 d3
    obtain ⟨t1,t2,t3,t4⟩:=turn .ready none hr4.hp f3 d3
    have hrun:=run_endRound (P:=P) none (recAt d3)
    simp only [Option.isNone_none,if_true,rs] at hrun
    refine ⟨_,_,hrun,.inl ⟨rfl,?_,fun q hS=>(keepJ t3 q hS).trans (keepJ hd q hS).symm,?_⟩⟩
    ·rw [hJ];exact ⟨cs,g4,y',hp',hs'.1,t1,t2,t3⟩
    ·intro q hq
     have hm:∀st pe,(q,cs q)∈(cJ cs st pe).kp:=fun st pe=>by
      rw [hcJ];exact z3 _ (z3 _ (List.mem_append_left _ (wZ.2 ⟨q,(hbl q).2 hq,rfl⟩)))
     rw [(t3.2.1 q _ (hm _ _)).2,(hd.2.1 q _ (hm _ _)).2]
   ·exact leave (.exit i) hl3 hr3 (.inr ⟨i,rfl,hk3⟩)
   ·exact leave .ret hl3 hr3 (.inl ⟨rfl,hk3⟩)
  ·rintro e W' ⟨⟨v,rfl⟩,hj|hj⟩
   ·rw [hJ] at hj
    obtain ⟨cs,gb,y,hp,hgd,hh,hf,hd⟩:=hj
    obtain ⟨c2,hl2,hr2⟩:=fin (.loop { rec .ready none with state:=.exhausted }) hh hf hd
    exact ⟨none,_,by have:=run_endLoop (P:=P) (recAt hd) (by rw [hrec];simp);rw [hrec] at this ⊢;exact this,hK c2 _ _ _ _ hl2 (hdone y hp) hr2⟩
   ·rw [hJx] at hj
    obtain ⟨cs,gb,HH,jump,hj,hh,hf,hd⟩:=hj
    have hrun:=run_endLoop (P:=P) (recAt hd) (by rw [hrec];simp)
    have hpe:(rec .done (some jump)).pending=some jump:=by rw [hrec]
    rw [hpe] at hrun
    obtain ⟨oo,hrun⟩:∃oo,(Instr.endLoop (w.heap.size+1)).run P W'=.ok (some jump) (W'.putObj (w.heap.size+1) oo):=⟨_,hrun⟩
    obtain ⟨c2,hl2,hr2⟩:=fin oo hh hf hd
    refine ⟨some jump,_,hrun,?_⟩
    rcases hj with ⟨rfl,hj⟩|⟨i,rfl,hj⟩
    ·exact wpIn_ret (hT c2 _ _ _ _ hl2 hj hr2)
    ·exact wpIn_exit (hX c2 i _ _ _ _ hl2 hj hr2)
theorem MC.sound {r:Option Nat}:∀(mc:MC),(r=none∨mc.flat=true)→d3l P r mc
 | .skip,_=>by
  intro n c code Q K X R g σ a w hN hQ hok hR h hK hX hT
  cases code<;>try (simp [MC.ok] at hok;done)
  exact wpIn_skip (hK c σ g a w (.refl c) h hR)
 | .ret,_=>by
  intro n c code Q K X R g σ a w hN hQ hok hR h hK hX hT
  cases code<;>try (simp [MC.ok] at hok;done)
  exact wpIn_ret (hT c σ g a w (.refl c) h hR)
 | .exit i,_=>by
  intro n c code Q K X R g σ a w hN hQ hok hR h hK hX hT
  cases code<;>try (simp [MC.ok] at hok;done)
  have e:=zR hok;subst e
  exact wpIn_exit (hX c i σ g a w (.refl c) h hR)
 | .reg ms,_=>by
  intro n c code Q K X R g σ a w hN hQ hok hR h hK hX hT
  cases code<;>try (simp [MC.ok] at hok;done)
  simp only [MC.ok,xY,xO] at hok
  obtain ⟨⟨h1,h0⟩,h2⟩:=hok
  subst h1
  exact c6d h0 hQ (hK c · · · · (.refl c)) h2 hR h
 | .regI ms,_=>by
  intro n c code Q K X R g σ a w hN hQ hok hR h hK hX hT
  cases code<;>try (simp [MC.ok] at hok;done)
  simp only [MC.ok,xY,xO] at hok
  obtain ⟨⟨h1,h0⟩,h2⟩:=hok
  subst h1
  exact c43 h0 hQ (hK c · · · · (.refl c)) h2 hR h
 | .regD ms aft anc,_=>by
  intro n c code Q K X R g σ a w hN hQ hok hR h hK hX hT
  cases code<;>try (simp [MC.ok] at hok;done)
  simp only [MC.ok,xY] at hok
  obtain ⟨⟨⟨⟨⟨⟨h1,h0⟩,h2⟩,h3⟩,h4⟩,h5⟩,h6⟩:=hok
  subst h1
  exact c44 h0 hQ h2 (hK c · · · · (.refl c)) h3 h4 h5 h6 hR h
 | .seq x y,hf=>by
  intro n c code Q K X R g σ a w hN hQ hok hR h hK hX hT
  cases code<;>try (simp [MC.ok] at hok;done)
  simp only [MC.ok,xY] at hok
  simp only [MC.flat,xY] at hf
  refine wpIn_seq (MC.sound x (hf.imp id And.left) (Q:=Exit.then _ Q) hN.1 hQ hok.1 hR h (fun c' σ g a w hl hk hr=>?_) hX hT)
  rw [←hl.nt] at hok
  rw [←hl.H0] at hk
  exact MC.sound y (hf.imp id And.right) (hN.2.mono hl) hQ hok.2 hr hk (fun c2 σ g a w hl2=>hK c2 σ g a w (hl.trans hl2)) (fun c2 i σ g a w hl2=>hX c2 i σ g a w (hl.trans hl2)) (fun c2 σ g a w hl2=>hT c2 σ g a w (hl.trans hl2))
 | .cut x y,hf=>by
  intro n c code Q K X R g σ a w hN hQ hok hR h hK hX hT
  cases code<;>try (simp [MC.ok] at hok;done)
  simp only [MC.ok,xY] at hok
  simp only [MC.flat,xY] at hf
  obtain ⟨α,I,p,ns,h1,h2⟩:=Lk.out h
  refine wpIn_seq (MC.sound x (hf.imp id And.left) (Q:=Exit.then _ Q) hN.1 hQ hok.1 hR h1 (fun c' σ g a w hl hk hr=>?_) hX hT)
  have hk:=Lk.out hk
  rw [←hl.H0] at hk
  obtain ⟨g,σ,⟨z,hz,hs⟩,hr⟩:=a8m hk hr
  have hr':=hr.subSt hs
  have h3:=h2 z hz (hr'.factsSt hs.1)
  rw [←hl.nt] at hok
  rw [←hl.H0] at h3
  exact MC.sound y (hf.imp id And.right) (hN.2.mono hl) hQ hok.2 hr' h3 (fun c2 σ g a w hl2=>hK c2 σ g a w (hl.trans hl2)) (fun c2 i σ g a w hl2=>hX c2 i σ g a w (hl.trans hl2)) (fun c2 σ g a w hl2=>hT c2 σ g a w (hl.trans hl2))
 | .cond x t e,hf=>by
  intro n c code Q K X R g σ a w hN hQ hok hR h hK hX hT
  cases code<;>try (simp [MC.ok] at hok;done)
  simp only [MC.ok,xY] at hok
  simp only [MC.flat,xY] at hf
  simp only [MWP] at h
  split at h
  case h_2=>exact h.elim
  rename_i b hb
  have hv:=Opd.vr hR hok.1.1
  rw [hb] at hv
  obtain ⟨h1,h2⟩:=h
  cases b with
  | true =>
   have h1:=h1 rfl
   rw [b9k hR hb] at h1
   exact wpIn_cond_true hv.bool_inv (MC.sound t (hf.imp id And.left) hN.1 hQ hok.1.2 hR h1 hK hX hT)
  | false =>
   have h2:=h2 rfl
   rw [b9k hR hb] at h2
   exact wpIn_cond_false hv.bool_inv (MC.sound e (hf.imp id And.right) hN.2 hQ hok.2 hR h2 hK hX hT)
 | .block i b,hf=>by
  intro n c code Q K X R g σ a w hN hQ hok hR h hK hX hT
  cases code<;>try (simp [MC.ok] at hok;done)
  simp only [MC.ok,xY] at hok
  have e:=zR hok.1;subst e
  refine wpIn_block (MC.sound b hf (Q:=Exit.inBlock i Q) hN hQ hok.2 hR h hK (fun c' j σ g a w hl hx hr=>?_) hT)
  simp only [Exit.inBlock]
  cases hb:Nat.beq j i with
  | true =>
   have e:=zR hb;subst e
   rw [hb] at hx
   simp only [if_true]
   exact hK c' σ g a w hl hx hr
  | false =>
   rw [hb] at hx
   have:j≠i:=fun e=>by rw [e,wW] at hb;cases hb
   simp only [this,if_false]
   exact hX c' j σ g a w hl hx hr
 | .loop b,hf=>by
  intro n c code Q K X R g σ a w hN hQ hok hR h hK hX hT
  cases code<;>try (simp [MC.ok] at hok;done)
  simp only [MC.ok] at hok
  obtain ⟨α,I,p,μ,ns,h0,round⟩:=Lk.out h
  obtain ⟨g,σ,⟨x0,hp0,hs0⟩,hR⟩:=a8m h0 hR
  refine wpIn_loop' (fun x a w=>p x∧(I x).good=true∧∃c' g,c.le c'∧Rel P c' g (I x) a w) μ ⟨x0,hp0,hs0.1,c,g,.refl c,hR.subSt hs0⟩ ?_
  rintro x a w ⟨hp,hg,c',g,hl,hr⟩
  have h1:=round x hp (hr.factsSt hg)
  rw [←hl.nt] at hok
  rw [←hl.H0] at h1
  refine MC.sound b hf (Q:=Exit.then _ Q) (a8b.mono (mc:=b) hl hN) hQ hok hr h1 (fun c2 σ g a w hl2 hk hr=>?_) (fun c2 i σ g a w hl2=>hX c2 i σ g a w (hl.trans hl2)) (fun c2 σ g a w hl2=>hT c2 σ g a w (hl.trans hl2))
  have hk:=Lk.out hk
  rw [←hl2.H0] at hk
  obtain ⟨g,σ,⟨y,hy,hlt,hs⟩,hr⟩:=a8m hk hr
  exact ⟨y,⟨hy,hs.1,c2,g,hl.trans hl2,hr.subSt hs⟩,hlt⟩
 | .note m b,hf=>by
  intro n c code Q K X R g σ a w hN hQ hok hR h hK hX hT
  have hok':b.ok P c.nt code=true:=by
   unfold MC.ok at hok;exact hok
  obtain ⟨g',σ',h',hR'⟩:=b1q h hR
  exact MC.sound b hf hN hQ hok' hR' h' hK hX hT
 | .hnote T b,hf=>by
  intro n c code Q K X R g σ a w hN hQ hok hR h hK hX hT
  have hok':b.ok P c.nt code=true:=by
   unfold MC.ok at hok;exact hok
  obtain ⟨g',σ',h',hR'⟩:=hN.1 _ c g σ a w (.refl c) hR h
  exact MC.sound b (.inl (hf.resolve_right (by simp [MC.flat]))) hN.2 hQ hok' hR' h' hK hX hT
 | .no,_=>by
  intro n c code Q K X R g σ a w hN hQ hok hR h hK hX hT
  exact h.elim
 | .rngF s ps a b,hf=>by
  have hr:r=none:=hf.resolve_right (by simp [MC.flat])
  subst hr
  exact c41 s ps a b (fun l hl=>MC.sound (r:=some l) a (.inr hl)) (fun l hl=>MC.sound (r:=some l) b (.inr hl))
end
def sel:List Nat→Heap→Heap
 | [],_=>[]
 | n::r,H=>match find n H with
  | some o=>(n,o)::sel r H
  | none=>sel r H
@[go_sem] def c3p:List Nat→Heap→Bool
 | [],_=>true
 | n::r,H=>a0t n H&&!mem n r&&c3p r H
def a03.within (l:List Nat):a03→Bool
 | .cells cs _=>V.withinL l cs
 | .nmap z _ _ _=>mem z l
 | _=>true
def b1i (l:List Nat):Heap→Bool
 | []=>true
 | (_,o)::r=>o.within l&&b1i l r
@[go_sem] def a4s:Nat→List V→List (Nat×V)
 | _,[]=>[]
 | n,x::r=>(n,x)::a4s (n+1) r
inductive RS where
 | t (s:Nat)
 | c (s:Nat) (n:Option Nat)
@[go_sem] def a9x (σ:St):List RS→(List V→Prop)→Prop
 | [],K=>K []
 | .t s::r,K=>a9x σ r fun vs=>K (get s σ.env::vs)
 | .c s n::r,K=>sLd n (get s σ.env) (fun id=>find id σ.heap) (fun x=>a9x σ r fun vs=>K (x::vs)) (fun x=>a9x σ r fun vs=>K (x::vs))
@[go_sem] def f0b:List V→V
 | [x]=>x
 | xs=>.tup xs
def a7b (P:Program):List RS→List ResultVar→Bool
 | [],[]=>true
 | .t s::r,.tmp t::q=>Nat.beq s t&&a7b P r q
 | .c s n::r,.cell t ty::q=>Nat.beq s t&&decide (b89 P ty=some n)&&a7b P r q
 | _,_=>false
@[go_sem] def f0i (rids:List Nat) (Q:V→Heap→Prop) (σ:St) (v:V):Prop :=
 bif c3p rids σ.heap&&v.within rids&&b1i rids (sel rids σ.heap) then Q v (sel rids σ.heap) else False
@[go_sem] def d37 (rids:List Nat) (rs:List RS) (Q:V→Heap→Prop) (σ:St):Prop:=a9x σ rs fun vs=>f0i rids Q σ (f0b vs)
def a2c (H0:Heap) (ns:List a5r) (rids:List Nat) (rs:List RS) (Q:V→Heap→Prop) (σ:St):Prop:=a0f H0 ns σ (d37 rids rs Q)
section
variable {P:Program}
theorem a4e {n:Nat} {o:a03}:∀{l:List Nat} {H:Heap},find n (sel l H)=some o→n∈l∧find n H=some o
 | [],_,h=>by cases h
 | m::r,H,h=>by
  simp only [sel] at h
  cases hm:find m H with
  | none =>
   rw [hm] at h
   obtain ⟨h1,h2⟩:=a4e (l:=r) h
   exact ⟨z3 _ h1,h2⟩
  | some o' =>
   rw [hm] at h
   simp only [find] at h
   cases hb:Nat.beq n m with
   | true =>
    rw [hb] at h;cases h
    have e:=zR hb;subst e
    exact ⟨xA,hm⟩
   | false =>
    rw [hb] at h
    obtain ⟨h1,h2⟩:=a4e (l:=r) h
    exact ⟨z3 _ h1,h2⟩
theorem c1q {n:Nat}:∀{l:List Nat} {H:Heap},c3p l H=true→n∈l→∃o,find n (sel l H)=some o
 | m::r,H,h,hm=>by
  simp only [c3p,xY] at h
  obtain ⟨⟨h1,h2⟩,h3⟩:=h
  obtain ⟨o,ho⟩:=a9f.1 h1
  simp only [sel,ho,find]
  cases hb:Nat.beq n m with
  | true=>exact ⟨o,rfl⟩
  | false =>
   rcases wO.1 hm with e|hm
   ·rw [e,wW] at hb;cases hb
   ·exact c1q h3 hm
theorem b2k {l:List Nat} {n:Nat} {o:a03}:∀{H:Heap},b1i l H=true→find n H=some o→o.within l=true
 | (m,y)::r,h,hf=>by
  simp only [b1i,xY] at h
  simp only [find] at hf
  cases hb:Nat.beq n m with
  | true=>rw [hb] at hf;cases hf;exact h.1
  | false=>rw [hb] at hf;exact b2k h.2 hf
theorem b5y {l:List Nat} {id:Nat} {o:a03} (h:o.within l=true) (hh:o.has id=true):id∈l:=by
 cases o with
 | cells cs ty =>
  simp only [a03.within,a03.has] at h hh
  obtain ⟨x,hx,hxh⟩:=b06.1 hh
  exact a2u (a3v.1 h x hx) hxh
 | nmap z k kd es =>
  simp only [a03.within,a03.has] at h hh
  rw [zR hh];exact mem_iff.1 h
 | _=>simp [a03.has] at hh
theorem b6q {s:Nat} {x:V}:∀{l:List V} {n:Nat},find s (a4s n l)=some x→n≤s∧l[s - n]?=some x
 | [],_,h=>by cases h
 | y::r,n,h=>by
  simp only [a4s,find] at h
  cases hb:Nat.beq s n with
  | true =>
   rw [hb] at h;cases h
   have e:=zR hb;subst e
   exact ⟨w8 _,by simp⟩
  | false =>
   rw [hb] at h
   obtain ⟨h1,h2⟩:=b6q (l:=r) h
   have e:s - n=(s - (n+1))+1:=by omega
   exact ⟨by omega,by rw [e];exact h2⟩
open Classical in
noncomputable def Gh.mix (g g':Gh) (l:List Nat):Gh :=
 ⟨g'.S,fun i=>if i∈l then g'.ρ i else g.ρ i,fun i=>if i∈l then g'.base i else g.base i,fun i=>if i∈l then g'.cap i else g.cap i,fun i=>if i∈l then g'.nil i else g.nil i,g'.sub⟩
theorem a7w {g g':Gh} {l:List Nat} {i:Nat} (h:i∈l):g'.agree (g.mix g' l) i:=by simp [Gh.agree,Gh.mix,h]
theorem c6i {g g':Gh} {l:List Nat} {i:Nat} (h:i∉l):g.agree (g.mix g' l) i:=by simp [Gh.agree,Gh.mix,h]
theorem d4a {c:Ctx} {g:Gh} {σ:St} {a:Act} {w:World} (hR:Rel P c g σ a w) (s:Nat):VR g w (a.tmps.getD s undef) (get s σ.env):=by
 rw [a1d]
 cases hf:find s σ.env with
 | none=>exact .any _
 | some x=>exact (hR.env s x hf).2
theorem b1l {c:Ctx} {g:Gh} {σ:St} {a:Act} {w:World} (hR:Rel P c g σ a w) {F:ResultVar→Sem Value} (hF:∀t,F (.tmp t)=pure (a.tmps.getD t undef))
  (hG:∀t ty ad u,a.tmps.getD t undef=.pointer (some ad)→(loadVar ty ad).run P w=.ok u w→(F (.cell t ty)).run P w=.ok u w) :
  ∀{rs:List RS} {q:List ResultVar} {K:List V→Prop},a7b P rs q=true→a9x σ rs K→∃us vs,(q.mapM F).run P w=.ok us w∧us.length=vs.length∧(∀(i:Nat) (x:V),vs[i]?=some x→VR g w (us.toArray.getD i undef) x)∧K vs
 | [],[],K,_,h=>⟨[],[],by simp,rfl,fun i x hx=>by simp at hx,h⟩
 | .t s::r,.tmp t::q,K,hok,h=>by
  simp only [a7b,xY] at hok
  have e:=zR hok.1;subst e
  obtain ⟨us,vs,h1,h2,h3,h4⟩:=b1l hR hF hG hok.2 h
  refine ⟨a.tmps.getD s undef::us,get s σ.env::vs,?_,by simp [h2],fun i x hx=>?_,h4⟩
  ·simp only [List.mapM_cons,wT,hF,wS,xH,h1]
  ·cases i with
   | zero=>simp at hx;subst hx;simpa using d4a hR s
   | succ i=>simp at hx;simpa [zC] using h3 i x hx
 | .c s n::r,.cell t ty::q,K,hok,h=>by
  simp only [a7b,xY,xG] at hok
  have e:=zR hok.1.1;subst e
  obtain ⟨ad,u,z,e1,e2,e3,e4⟩:=d47 hok.1.2 hR.hp (fun _ _ h=>h) (d4a hR s) h
  have e3:a9x σ r fun vs=>K (z::vs):=by rcases e3 with e3|e3<;>exact e3
  obtain ⟨us,vs,h1,h2,h3,h4⟩:=b1l hR hF hG hok.2 e3
  refine ⟨u::us,z::vs,?_,by simp [h2],fun i x hx=>?_,h4⟩
  ·simp only [List.mapM_cons,wT,hG s ty ad u e1 e2,wS,xH,h1]
  ·cases i with
   | zero=>simp at hx;subst hx;simpa using e4
   | succ i=>simp at hx;simpa [zC] using h3 i x hx
 | [],_::_,K,hok,h=>by simp [a7b] at hok
 | .t _::_,[],K,hok,h=>by simp [a7b] at hok
 | .c _ _::_,[],K,hok,h=>by simp [a7b] at hok
 | .t _::_,.cell _ _::_,K,hok,h=>by simp [a7b] at hok
 | .c _ _::_,.tmp _::_,K,hok,h=>by simp [a7b] at hok
theorem c0f {c:Ctx} {g:Gh} {σ:St} {a:Act} {w:World} {l:List ResultVar} {rs:List RS} (hR:Rel P c g σ a w) (hok:a7b P rs l=true) {K:V→Prop} (h:a9x σ rs fun vs=>K (f0b vs)) {F:ResultVar→Sem Value}
  (hF:∀t,F (.tmp t)=pure (a.tmps.getD t undef)) (hG:∀t ty ad u,a.tmps.getD t undef=.pointer (some ad)→(loadVar ty ad).run P w=.ok u w→(F (.cell t ty)).run P w=.ok u w) :
  ∃v x,((((l.mapM F).run P w).andThen fun a w'=>.ok a.toArray w').andThen fun a w'=>(pure (if h:a.size=1 then a[0] else Value.tuple a):Sem Value).run P w')=.ok v w∧VR g w v x∧K x:=by
 obtain ⟨us,vs,h1,h2,h3,h4⟩:=b1l hR hF hG hok h
 rw [h1]
 match us,vs with
 | [u],[x]=>exact ⟨u,x,by simp,by simpa using h3 0 x rfl,h4⟩
 | [],[]=>exact ⟨.tuple #[],.tup [],by simp,.tup _ _ rfl fun i x hx=>by simp at hx,h4⟩
 | u1::u2::ur,x1::x2::xr=>exact ⟨.tuple (u1::u2::ur).toArray,.tup (x1::x2::xr),by simp,.tup _ _ (by simpa using h2) h3,h4⟩
 | [],_::_=>simp at h2
 | [_],[]=>simp at h2
 | [_],_::_::_=>simp at h2
 | _::_::_,[]=>simp at h2
 | _::_::_,[_]=>simp at h2
theorem c0e {c:Ctx} {g:Gh} {σ:St} {a:Act} {w:World} {fn:Func} {rs:List RS} (hR:Rel P c g σ a w) (hok:a7b P rs fn.results.toList=true) {K:V→Prop} (h:a9x σ rs fun vs=>K (f0b vs)) :
  ∃v x,(results fn a.tmps).run P w=.ok v w∧VR g w v x∧K x:=by
 unfold results
 rw [Array.mapM_eq_mapM_toList]
 simp only [wT,Sem.run_map]
 exact c0f hR hok h (fun t=>rfl) (fun t ty ad u e1 e2=>by simp [e1,asAddr,e2])
theorem e7c {g:Gh} {w:World} {H:Heap} {nt:Nat} {g':Gh} {σ:St} {a:Act} {w':World} {rids:List Nat} {x:V} {Q:V→Heap→Prop} {v:Value} (hR:Rel P ⟨w,g,H,nt,[],[],H,g,w⟩ g' σ a w')
  (hv:VR g' w' v x) (h:f0i rids Q σ x):∃r H' g'',Q r H'∧a2o P g'' w' H'∧VR g'' w' v r∧Frm ⟨w,g,H,0,[],[],H,g,w⟩ g'' w' H'∧(∀id,find id H'=none→g.agree g'' id):=by
 unfold f0i at h
 cases hc:c3p rids σ.heap&&x.within rids&&b1i rids (sel rids σ.heap) with
 | false=>rw [hc] at h;exact h.elim
 | true =>
  rw [hc] at h
  simp only [xY] at hc
  obtain ⟨⟨h1,h2⟩,h3⟩:=hc
  have hk:a1l g'.S w' w':=fun _ _=>rfl
  have hs:∀b,g'.S b→(g.mix g' rids).S b:=fun _ h=>h
  have cv:Cnv g' (g.mix g' rids) σ.heap (sel rids σ.heap):=by
   refine ⟨fun id o ho hn=>?_,fun i j o o' hi hj hni hnj he=>?_,rfl⟩
   ·obtain ⟨k1,k2⟩:=a4e ho
    obtain ⟨e1,_,_,e2⟩:=a7w (g:=g) (g':=g') k1
    exact ⟨id,o,k2,fun h=>hn (e2.2 h),e1,.inl rfl⟩
   ·obtain ⟨k1,k2⟩:=a4e hi
    obtain ⟨k3,k4⟩:=a4e hj
    obtain ⟨e1,_,_,e2⟩:=a7w (g:=g) (g':=g') k1
    obtain ⟨e3,_,_,e4⟩:=a7w (g:=g) (g':=g') k3
    exact hR.hp.inj i j o o' k2 k4 (fun h=>hni (e2.2 h)) (fun h=>hnj (e4.2 h)) (by rw [←e1,←e3];exact he)
  refine ⟨_,_,g.mix g' rids,h,⟨fun id o ho=>?_,fun i j o o' hi hj hni hnj he=>?_,fun id o ho hn hS=>?_,hR.hp.lt,hR.hp.tabs,cv.sub1 hR.hp fun b hb=>.inl hb,cv.sub2 hR.hp⟩,hv.mono hk hs fun id hid=>a7w (a2u h2 hid),
   ⟨hR.fr.os,hR.fr.tape,hR.fr.output,hR.fr.size,hR.fr.old,fun id o ho hn=>?_,hR.fr.sup,hR.fr.sub,fun id o ho=>?_,fun id o b hi hn hs=>(by obtain ⟨m,o',q1,q2,_,q4⟩:=cv.to hi hn hs;exact hR.fr.own2 m o' b q1 q2 q4),hR.fr.sb⟩,fun id hid=>?_⟩
  ·obtain ⟨k1,k2⟩:=a4e ho
   exact (hR.hp.obj id o k2).mono hk hs (a7w k1) (fun _=>rfl) (fun n hn=>a7w (b5y (b2k h3 ho) hn)) (w8 _) fun _ _=>⟨rfl,fun _ _=>rfl⟩
  ·obtain ⟨k1,k2⟩:=a4e hi
   obtain ⟨k3,k4⟩:=a4e hj
   obtain ⟨e1,_,_,e2⟩:=a7w (g:=g) (g':=g') k1
   obtain ⟨e3,_,_,e4⟩:=a7w (g:=g) (g':=g') k3
   exact hR.hp.inj i j o o' k2 k4 (fun h=>hni (e2.2 h)) (fun h=>hnj (e4.2 h)) (by rw [←e1,←e3];exact he)
  ·obtain ⟨k1,k2⟩:=a4e ho
   obtain ⟨e1,_,_,e2⟩:=a7w (g:=g) (g':=g') k1
   rw [e1] at hS
   exact hR.hp.sep id o k2 (fun h=>hn (e2.2 h)) hS
  ·obtain ⟨k1,k2⟩:=a4e ho
   obtain ⟨e1,_,_,e2⟩:=a7w (g:=g) (g':=g') k1
   rw [e1]
   exact hR.fr.own id o k2 fun h=>hn (e2.2 h)
  ·by_cases hm:id∈rids
   ·exact (hR.fr.par id o ho).trans (a7w hm)
   ·exact c6i hm
  ·by_cases hm:id∈rids
   ·obtain ⟨o,ho⟩:=c1q h1 hm
    rw [ho] at hid;cases hid
   ·exact c6i hm
def shutAll:List Nat→World→World
 | [],w=>w
 | D::r,w=>shutAll r (w.putObj D (.deferred none))
theorem a9t:∀(Ds:List Nat) (w:World),(shutAll Ds w).os=w.os∧(shutAll Ds w).tape=w.tape∧(shutAll Ds w).output=w.output∧(shutAll Ds w).heap.size=w.heap.size∧∀b,b∉Ds→(shutAll Ds w).heap[b]?=w.heap[b]?
 | [],w=>⟨rfl,rfl,rfl,rfl,fun _ _=>rfl⟩
 | D::r,w=>by
  obtain ⟨h1,h2,h3,h4,h5⟩:=a9t r (w.putObj D (.deferred none))
  exact ⟨h1,h2,h3,h4.trans (by simp),fun b hb=>(h5 b fun h=>hb (z3 _ h)).trans (World.putObj_heap_other fun e=>hb (e▸xA))⟩
theorem b2w {F:Fence} {n:Nat} {fn:Func} {tmps:Array Value} {R:Ending→World→Prop}:∀(Ds:List Nat) (w:World),Ds.Nodup→(∀D∈Ds,w.heap[D]?=some (.deferred (some [])))→LeavesIn F n P fn tmps R [] .returning (shutAll Ds w) →
  LeavesInM F n P fn tmps R (Ds.map fun D=>{ target:=.collected D,args:=#[] }) .returning w
 | [],w,_,_,h=>h
 | D::r,w,hn,hd,h=>by
  obtain ⟨h1,h2⟩:=List.nodup_cons.1 hn
  refine ⟨by simp,.inl ⟨D,w.putObj D (.deferred none),rfl,run_takeDeferred (hd D xA),b2w r _ h2 (fun E hE=>?_) h⟩⟩
  exact (World.putObj_heap_other fun e=>by subst e;exact h1 hE).trans (hd E (z3 _ hE))
theorem d30 {f:Nat} {fn:Func} {code:Code} {mc:MC} {args:List V} {H:Heap} {Q:V→Heap→Prop} {g:Gh} {w:World} {vals:Array Value} (ns:List a5r) (rids:List Nat) (rs:List RS) (hf:P.funcs[f]?=some fn) (hb:fn.body=some code)
  (hnh:a8b P ⟨w,g,H,fn.ntmps,[],[],H,g,w⟩ mc) (hok:mc.ok P fn.ntmps code=true) (hrs:a7b P rs fn.results.toList=true) (hn:Nat.ble args.length fn.ntmps=true) (hg:St.good ⟨a4s 0 args,H⟩=true)
  (h:factsSt ⟨a4s 0 args,H⟩→MWP P H mc (a2c H ns rids rs Q) (fun _ _=>False) (a2c H ns rids rs Q) ⟨a4s 0 args,H⟩) (hH:a2o P g w H) (hl:vals.size=args.length) (hv:∀(i:Nat) (x:V),args[i]?=some x→VR g w (vals.getD i undef) x) :
  Calls P f vals w fun e w'=>∃v r H' g',e=.returned v∧Q r H'∧a2o P g' w' H'∧VR g' w' v r∧Frm ⟨w,g,H,0,[],[],H,g,w⟩ g' w' H'∧(∀id,find id H'=none→g.agree g' id):=by
 refine c36 (r:=none) (n:=0) (callsIn_of_wp_marks hf hb trivial ?_)
 obtain ⟨c,hcd⟩:∃c:Ctx,c=⟨w,g,H,fn.ntmps,[],[],H,g,w⟩:=⟨_,rfl⟩
 have hR:Rel P c g ⟨a4s 0 args,H⟩ { tmps:=vals++Array.replicate (fn.ntmps - vals.size) undef,defers:=[] } w:=by
  rw [hcd]
  have hle:vals.size≤fn.ntmps:=by rw [hl];exact zQ hn
  refine ⟨by simp;omega,⟨rfl,fun _ _ h=>(by cases h),fun _ _=>rfl⟩,fun s x hx=>?_,hH,⟨rfl,rfl,rfl,w8 _,fun _ _ _=>rfl,fun id o ho hn=>⟨.inr ⟨id,o,ho,hn,.inl rfl⟩,fun _ h=>by cases h⟩,fun _ h=>h.elim id id,fun _ h=>⟨.inl h,fun _ h=>by cases h⟩,fun id _ _=>Gh.agree.refl g id,
   fun id o b ho hn hs=>⟨.inr ⟨id,o,ho,hn,.inr hs⟩,fun _ h=>by cases h⟩,fun _ _ _=>rfl⟩⟩
  obtain ⟨_,h2⟩:=b6q hx
  rw [Nat.sub_zero] at h2
  have hlt:s<vals.size:=by
   rw [hl];exact (zG.1 h2).1
  refine ⟨z7 hlt hle,?_⟩
  have e:(vals++Array.replicate (fn.ntmps - vals.size) undef).getD s undef=vals.getD s undef:=by
   simp [zC,zW,hlt]
  rw [e]
  exact hv s x h2
 have fin:∀(c':Ctx) (σ:St) (g':Gh) (a:Act) (w':World),c.le c'→a2c H ns rids rs Q σ→Rel P c' g' σ a w' →
   LeavesInM (WF none) 0 P fn a.tmps (fun e w'=>∃v r H' g',e=.returned v∧Q r H'∧a2o P g' w' H'∧VR g' w' v r∧Frm ⟨w,g,H,0,[],[],H,g,w⟩ g' w' H'∧(∀id,find id H'=none→g.agree g' id)) a.defers .returning w':=by
  intro c' σ g' a w' hle hq hr
  obtain ⟨Ds,e1,e2,e3⟩:=hle.dfr
  have e4:a.defers=Ds.map fun D=>{ target:=.collected D,args:=#[] }:=by
   rw [hr.dfr.1,e1,hcd];simp
  rw [e4]
  refine b2w Ds w' e2 (fun D hD=>(hr.dfr.2.1 D _ (e3 D hD).1).2) ?_
  obtain ⟨s1,s2,s3,s4,s5⟩:=a9t Ds w'
  obtain ⟨k1,k2,k3⟩:=b8l (c2:=c) (w':=shutAll Ds w') hr.hp hr.fr hr.dfr hle.w0.symm hle.g0.symm hle.hm.symm (fun b hS=>hr.fr.sup b (.inr (by rw [hle.gp];exact hS))) (fun id o ho=>by
   have:=hr.fr.par id o (by rw [hle.H0];exact ho)
   rwa [hle.gp] at this) s1 s2 s3 (by rw [s4];exact w8 _) (fun b _ hf=>s5 b fun hb=>hf _ (e3 b hb).1) (fun b _ _ _ o ho=>by rw [hcd] at ho;cases ho)
   (fun b hb hm=>by rw [←hle.gp];exact hr.fr.sb b hb hm)
  have hr2:Rel P c g' σ { a with defers:=[] } (shutAll Ds w'):=by
   refine ⟨by rw [←hle.nt];exact hr.size,⟨by rw [hcd],fun b o ho=>(by rw [hcd] at ho;cases ho),fun b hS=>?_⟩,fun t x hx=>?_,k1,k2⟩
   ·refine (k3 b (hr.fr.sup b (.inr (by rw [hle.gp];exact hS)))).trans ?_
    have:=hr.dfr.2.2 b (by rw [hle.gp];exact hS)
    rwa [hle.wp] at this
   ·obtain ⟨q1,q2⟩:=hr.env t x hx
    exact ⟨by rw [←hle.nt];exact q1,q2.mono (g':=g') k3 (fun _ h=>h) fun _ _=>Gh.agree.refl _ _⟩
  have hH0:c.H0=H:=by rw [hcd]
  unfold a2c at hq
  rw [←hH0] at hq
  obtain ⟨g',σ,hq,hr⟩:=a8m hq hr2
  obtain ⟨v,x,h1,h2,h0⟩:=c0e hr hrs hq
  rw [hcd] at hr
  obtain ⟨r,H',g'',h3,h4,h5,h6,h7⟩:=e7c hr h2 h0
  exact ⟨v,h1,v,r,H',g'',rfl,h3,h4,h5,h6,h7⟩
 have hm:=h (hR.factsSt hg)
 have hH0:c.H0=H:=by rw [hcd]
 rw [←hH0] at hm
 rw [hH0] at hm
 refine MC.sound mc (.inl rfl) (c:=c) (K:=a2c H ns rids rs Q) (X:=fun _ _=>False) (R:=a2c H ns rids rs Q) (by rw [hcd];exact hnh) ?_ (by rw [hcd];exact hok) hR (by rw [hH0];exact hm) (fun c' σ g' a w' hle hq hr=>?_) (fun _ _ _ _ _ _ _ h=>h.elim) (fun c' σ g' a w' hle hq hr=>?_)
 ·rintro _ _ ⟨v,_,_,_,h,_⟩;cases h
 ·exact fin c' σ g' a w' hle hq hr
 ·exact fin c' σ g' a w' hle hq hr
theorem c8y {f:Nat} {fn:Func} {code:Code} {mc:MC} {args:List V} {H:Heap} {Q:V→Heap→Prop} (ns:List a5r) (rids:List Nat) (rs:List RS) (hf:P.funcs[f]?=some fn) (hb:fn.body=some code) (hc:callable P f=true)
  (hnh:mc.nh=true) (hok:mc.ok P fn.ntmps code=true) (hrs:a7b P rs fn.results.toList=true) (hn:Nat.ble args.length fn.ntmps=true) (hg:St.good ⟨a4s 0 args,H⟩=true)
  (h:factsSt ⟨a4s 0 args,H⟩→MWP P H mc (a2c H ns rids rs Q) (fun _ _=>False) (a2c H ns rids rs Q) ⟨a4s 0 args,H⟩):l9 P f args H Q :=
 ⟨hc,fun g w vals hH hl hv=>d30 ns rids rs hf hb (.of_nh hnh) hok hrs hn hg h hH hl hv⟩
end
structure Cfg where
 P:Program
 H0:Heap
 K:St→Prop
 X:Nat→St→Prop
 R:St→Prop
inductive Fr where
 | sq (b:MC)
 | bl (id:Nat)
 | it (its:List It)
mutual
def kN (c:Cfg):List Fr→St→Prop
 | [],σ=>c.K σ
 | .sq b::s,σ=>MWP c.P c.H0 b (kN c s) (kX c s) c.R σ
 | .bl _::s,σ=>kN c s σ
 | .it its::s,σ=>b9y c.P c.H0 its σ (kN c s)
def kX (c:Cfg):List Fr→Nat→St→Prop
 | [],i,σ=>c.X i σ
 | .sq _::s,i,σ=>kX c s i σ
 | .it _::s,i,σ=>kX c s i σ
 | .bl id::s,i,σ=>bif Nat.beq i id then kN c s σ else kX c s i σ
end
def a0g (K:Eff→Prop) (v:V):Prop:=K (evl v)
def a6w (K:Eff→Prop) (id:Nat) (o:a03):Prop:=K (eup id o)
def go (c:Cfg) (m:MC) (s:List Fr) (σ:St):Prop:=MWP c.P c.H0 m (kN c s) (kX c s) c.R σ
def ops (c:Cfg) (ms:List MOp) (s:List Fr) (σ:St):Prop:=runN c.P c.H0 ms σ (kN c s)
def aft (c:Cfg) (d:Option Nat) (r:List MOp) (s:List Fr) (e:List (Nat×V)) (h:Heap) (f:Eff):Prop:=ops c r s (St.app ⟨e,h⟩ d f)
def lok (c:Cfg) (d:Option Nat) (r:List MOp) (s:List Fr) (e:List (Nat×V)) (h:Heap) (f:Eff):Prop:=aft c d r s e h f
def grpC (c:Cfg) (ms:List MOp) (its:List It) (s:List Fr) (σ:St):Prop :=
 Lk (∃(α:Type) (I:α→St) (p:α→Prop),runN c.P c.H0 ms σ (fun σ'=>Lk (∃y,p y∧a0p (I y) σ'))∧∀y,p y→factsSt (I y)→kN c (.it its::s) (I y))
theorem lok_eq {c:Cfg} {d:Option Nat} {r:List MOp} {s:List Fr} {e:List (Nat×V)} {h:Heap} {f:Eff}:lok c d r s e h f=aft c d r s e h f:=propext vF
def b5v (c:Cfg) (i:y7) (d:Option Nat) (t:Nat) (want:Bool) (r:List MOp) (s:List Fr) (e:List (Nat×V)) (h:Heap) (v:V):Prop :=
 match v with
 | .bool b=>a4p b want (ops c (⟨i,d,none⟩::r) s ⟨put t (.bool want) e,h⟩) (ops c r s ⟨a7h d (put t (.bool (!want)) e),h⟩)
 | .tup []=>ops c r s ⟨a7h d e,h⟩
 | _=>False
def goC (c:Cfg) (x:Opd) (a b:MC) (s:List Fr) (e:List (Nat×V)) (h:Heap) (v:V):Prop :=
 match v with
 | .bool t=>a4p t true (go c a s (b62 x true ⟨e,h⟩)) (go c b s (b62 x false ⟨e,h⟩))
 | _=>False
section
variable {c:Cfg} {e:List (Nat×V)} {h:Heap} {s:List Fr} {r:List MOp} {d:Option Nat} {i:y7}
theorem go_seq {a b:MC}:go c (.seq a b) s ⟨e,h⟩=go c a (.sq b::s) ⟨e,h⟩:=by simp only [go,MWP,kN,kX]
theorem go_block {id:Nat} {b:MC}:go c (.block id b) s ⟨e,h⟩=go c b (.bl id::s) ⟨e,h⟩:=by simp only [go,MWP,kN,kX]
theorem go_skip:go c .skip s ⟨e,h⟩=kN c s ⟨e,h⟩:=propext vF
theorem go_ret:go c .ret s ⟨e,h⟩=c.R ⟨e,h⟩:=propext vF
theorem go_exit {id:Nat}:go c (.exit id) s ⟨e,h⟩=kX c s id ⟨e,h⟩:=propext vF
theorem go_reg {ms:List MOp}:go c (.reg ms) s ⟨e,h⟩=ops c ms s ⟨e,h⟩:=propext vF
theorem go_cond {x:Opd} {a b:MC}:go c (.cond x a b) s ⟨e,h⟩=goC c x a b s e h (x.ev e):=by
 unfold go MWP goC;rfl
theorem go_note {n:a5r} {b:MC}:go c (.note n b) s ⟨e,h⟩=a0e c.H0 n ⟨e,h⟩ (go c b s):=propext vF
theorem go_hnote {T:St→(St→Prop)→Prop} {b:MC}:go c (.hnote T b) s ⟨e,h⟩=T ⟨e,h⟩ (go c b s):=propext vF
theorem kN_nil:kN c [] ⟨e,h⟩=c.K ⟨e,h⟩:=by simp only [kN]
theorem kN_sq {b:MC}:kN c (.sq b::s) ⟨e,h⟩=go c b s ⟨e,h⟩:=by simp only [kN,go]
theorem kN_bl {id:Nat}:kN c (.bl id::s) ⟨e,h⟩=kN c s ⟨e,h⟩:=by simp only [kN]
theorem kX_nil {n:Nat}:kX c [] n ⟨e,h⟩=c.X n ⟨e,h⟩:=by simp only [kX]
theorem kX_sq {b:MC} {n:Nat}:kX c (.sq b::s) n ⟨e,h⟩=kX c s n ⟨e,h⟩:=by simp only [kX]
theorem f5h {id n:Nat}:kX c (.bl id::s) n ⟨e,h⟩=bif Nat.beq n id then kN c s ⟨e,h⟩ else kX c s n ⟨e,h⟩:=by simp only [kX]
theorem go_regI {its:List It}:go c (.regI its) s ⟨e,h⟩=kN c (.it its::s) ⟨e,h⟩:=by simp only [go,MWP,kN]
theorem kN_it_nil:kN c (.it []::s) ⟨e,h⟩=kN c s ⟨e,h⟩:=by simp only [kN,b9y]
theorem kN_it_op {m:MOp} {its:List It}:kN c (.it (.op m::its)::s) ⟨e,h⟩=ops c [m] (.it its::s) ⟨e,h⟩:=by simp only [kN,b9y,ops,runN]
theorem kN_it_nt {n:a5r} {its:List It}:kN c (.it (.nt n::its)::s) ⟨e,h⟩=a0e c.H0 n ⟨e,h⟩ (kN c (.it its::s)):=by
 have:kN c (.it its::s)=fun σ'=>b9y c.P c.H0 its σ' (kN c s):=by funext σ';simp only [kN]
 rw [this];simp only [kN,b9y]
theorem kN_it_grp {ms:List MOp} {its:List It}:kN c (.it (.grp ms::its)::s) ⟨e,h⟩=grpC c ms its s ⟨e,h⟩:=by
 have:kN c (.it its::s)=fun σ'=>b9y c.P c.H0 its σ' (kN c s):=by funext σ';simp only [kN]
 unfold grpC;rw [this];simp only [kN,b9y]
theorem kX_it {its:List It} {n:Nat}:kX c (.it its::s) n ⟨e,h⟩=kX c s n ⟨e,h⟩:=by simp only [kX]
theorem ops_nil:ops c [] s ⟨e,h⟩=kN c s ⟨e,h⟩:=propext vF
theorem ops_guard {t:Nat} {w:Bool}:ops c (⟨i,d,some (t,w)⟩::r) s ⟨e,h⟩=b5v c i d t w r s e h (get t e):=propext vF
theorem f5e (K:Eff→Prop):(fun e=>Lk (K e))=K:=funext fun e=>propext ⟨Lk.out,Lk.mk⟩
theorem ops_ins:ops c (⟨i,d,none⟩::r) s ⟨e,h⟩=bif a0x c.H0 ⟨e,h⟩ (i.creates (d.getD 0)) then o6 c.P i (d.getD 0) (i.opds.map (·.ev e)) (c48 h) (aft c d r s e h) (lok c d r s e h) else False:=by
 simp only [ops,runN,b6d,b8h,f5e];rfl
theorem aft_eq {v:V} {dr:List Nat} {nw:List (Nat×a03)}:aft c d r s e h ⟨v,dr,nw⟩=ops c r s ⟨c3o d v e,puts nw (c84 dr h)⟩:=propext vF
theorem aft_some {n:Nat} {v:V}:a0g (aft c (some n) r s e h) v=ops c r s ⟨put n v e,h⟩:=propext vF
theorem aft_none {v:V}:a0g (aft c none r s e h) v=ops c r s ⟨e,h⟩:=propext vF
theorem aft_up {n:Nat} {id:Nat} {o:a03}:a6w (aft c (some n) r s e h) id o=ops c r s ⟨put n .any e,put id o h⟩:=propext vF
theorem aft_upn {id:Nat} {o:a03}:a6w (aft c none r s e h) id o=ops c r s ⟨e,put id o h⟩:=propext vF
theorem lok_comp {v:V}:a0g (lok c d r s e h) v=a0g (aft c d r s e h) v:=propext vF
theorem lok_compU {id:Nat} {o:a03}:a6w (lok c d r s e h) id o=a6w (aft c d r s e h) id o:=propext vF
theorem a6r {t:Nat} {w b:Bool}:b5v c i d t w r s e h (.bool b)=a4p b w (ops c (⟨i,d,none⟩::r) s ⟨put t (.bool w) e,h⟩) (ops c r s ⟨a7h d (put t (.bool (!w)) e),h⟩):=propext vF
theorem opsG_tup {t:Nat} {w:Bool}:b5v c i d t w r s e h (.tup [])=ops c r s ⟨a7h d e,h⟩:=propext vF
theorem opsG_lit_tt {t:Nat}:b5v c i d t true r s e h (.bool true)=ops c (⟨i,d,none⟩::r) s ⟨put t (.bool true) e,h⟩:=by rw [a6r,b07]
theorem opsG_lit_ff {t:Nat}:b5v c i d t false r s e h (.bool false)=ops c (⟨i,d,none⟩::r) s ⟨put t (.bool false) e,h⟩:=by rw [a6r,b7p]
theorem opsG_lit_tf {t:Nat}:b5v c i d t false r s e h (.bool true)=ops c r s ⟨a7h d (put t (.bool true) e),h⟩:=by rw [a6r,b7o];rfl
theorem opsG_lit_ft {t:Nat}:b5v c i d t true r s e h (.bool false)=ops c r s ⟨a7h d (put t (.bool false) e),h⟩:=by rw [a6r,b08];rfl
theorem b1o {t:Nat} {p:Prop} [Decidable p]:b5v c i d t true r s e h (.bool (decide p)) =
  ((p→ops c (⟨i,d,none⟩::r) s ⟨put t (.bool true) e,h⟩)∧(¬p→ops c r s ⟨a7h d (put t (.bool false) e),h⟩)):=by
 rw [a6r];simp [a4p]
theorem b1p {t:Nat} {p:Prop} [Decidable p]:b5v c i d t false r s e h (.bool (decide p)) =
  ((¬p→ops c (⟨i,d,none⟩::r) s ⟨put t (.bool false) e,h⟩)∧(p→ops c r s ⟨a7h d (put t (.bool true) e),h⟩)):=by
 rw [a6r];simp [a4p]
theorem a8q {x:Opd} {a b:MC} {t:Bool}:goC c x a b s e h (.bool t)=a4p t true (go c a s (b62 x true ⟨e,h⟩)) (go c b s (b62 x false ⟨e,h⟩)):=propext vF
theorem goC_t {n:Nat} {a b:MC}:goC c (.t n) a b s e h (.bool true)=go c a s ⟨put n (.bool true) e,h⟩:=by rw [a8q,b07];rfl
theorem goC_f {n:Nat} {a b:MC}:goC c (.t n) a b s e h (.bool false)=go c b s ⟨put n (.bool false) e,h⟩:=by rw [a8q,b08];rfl
theorem goC_ct {v:V} {a b:MC}:goC c (.c v) a b s e h (.bool true)=go c a s ⟨e,h⟩:=by rw [a8q,b07];rfl
theorem goC_cf {v:V} {a b:MC}:goC c (.c v) a b s e h (.bool false)=go c b s ⟨e,h⟩:=by rw [a8q,b08];rfl
theorem c0t {n:Nat} {a b:MC} {p:Prop} [Decidable p]:goC c (.t n) a b s e h (.bool (decide p)) =
  ((p→go c a s ⟨put n (.bool true) e,h⟩)∧(¬p→go c b s ⟨put n (.bool false) e,h⟩)):=by
 rw [a8q];simp [a4p,b62]
theorem goC_any {n:Nat} {a b:MC} (t:Bool):goC c (.t n) a b s e h (.bool t) =
  ((t=true→go c a s ⟨put n (.bool true) e,h⟩)∧(t=false→go c b s ⟨put n (.bool false) e,h⟩)):=by
 rw [a8q];simp [a4p,b62]
theorem opsG_any {t:Nat} {w:Bool} (b:Bool):b5v c i d t w r s e h (.bool b) =
  ((b=w→ops c (⟨i,d,none⟩::r) s ⟨put t (.bool w) e,h⟩)∧(b=(!w)→ops c r s ⟨a7h d (put t (.bool (!w)) e),h⟩)):=propext vF
section
variable {vs:List V} {P:Program} {n0:Nat} {ob:Nat→Option a03} {K L:Eff→Prop}
theorem f5z {x:Opd} {v:V}:o6 P (.mv x) n0 [v] ob K L=a0g K v:=propext vF
theorem e0m {x y z:Opd} {a b t:V}:o6 P (.pick x y z) n0 [t,a,b] ob K L=c08 t a b (a0g K):=propext vF
theorem f6c {n:Option Nat} {x:Opd} {a:V}:o6 P (.ld n x) n0 [a] ob K L=sLd n a ob (a0g K) (a0g L):=propext vF
theorem f5y {n:Nat} {x y:Opd} {a v:V}:o6 P (.st n x y) n0 [a,v] ob K L=sSt n a v ob (a6w K) (a6w L):=propext vF
theorem e8v {x:Opd} {a:V}:o6 P (.nck x) n0 [a] ob K L=e1s a (a0g K):=propext vF
theorem e97 {ch:Bool} {op:BinOp} {x y:Opd} {a b:V}:o6 P (.bin ch op x y) n0 [a,b] ob K L=d40 ch op a b (a0g K):=propext vF
theorem e0p {m:Nat} {x:Opd} {k:IntKind} {a:V}:o6 P (.mask m x k) n0 [a] ob K L=c0c m k a (a0g K):=propext vF
theorem e98 {ng:Bool} {x y:Opd} {a b:V}:o6 P (.beq ng x y) n0 [a,b] ob K L=e1y ng a b (a0g K):=propext vF
theorem e95 {ng:Bool} {ks:List Nat} {x y:Opd} {a b:V}:o6 P (.eqs ng ks x y) n0 [a,b] ob K L=d5u ng ks a b (a0g K):=propext vF
theorem e8t {x:Opd} {a:V}:o6 P (.not x) n0 [a] ob K L=e1q a (a0g K):=propext vF
theorem e8u {ch:Bool} {x:Opd} {a:V}:o6 P (.neg ch x) n0 [a] ob K L=e1r ch a (a0g K):=propext vF
theorem e91 {ch:Bool} {k:IntKind} {x:Opd} {a:V}:o6 P (.i2i ch k x) n0 [a] ob K L=e1v ch k a (a0g K):=propext vF
theorem e8z {x:Opd} {a:V}:o6 P (.idc x) n0 [a] ob K L=e1u a (a0g K):=propext vF
theorem e9a {x:Opd} {a:V}:o6 P (.b2s x) n0 [a] ob K L=c65 a ob (a0g K) (a0g L):=propext vF
theorem e0o {f:Nat} {cap:List Opd}:o6 P (.mkfn f cap) n0 vs ob K L=a0g K (.fn (.func f) vs):=by unfold o6;rfl
theorem e8q {x:Opd} {lo hi:Option Opd} {v:V}:o6 P (.sls x lo hi) n0 (v::vs) ob K L=d5a lo.isSome hi.isSome v vs (a0g K):=propext vF
theorem e8r {k:Nat} {x:Opd} {lo hi:Option Opd} {v:V}:o6 P (.slc k x lo hi) n0 (v::vs) ob K L=d3y k lo.isSome hi.isSome v vs (a0g K):=propext vF
theorem e93 {off:Nat} {x:Opd} {a:V}:o6 P (.fad off x) n0 [a] ob K L=e1x off a (a0g K):=propext vF
theorem e92 {n:Option Nat} {off:Nat} {x:Opd} {a:V}:o6 P (.fld n off x) n0 [a] ob K L=e1w n off a (a0g K):=propext vF
theorem e90 {k:Nat} {x i:Opd} {a b:V}:o6 P (.iad k x i) n0 [a,b] ob K L=c9k k a b (a0g K) (a0g L):=propext vF
theorem e8y {x i:Opd} {a b:V}:o6 P (.idx x i) n0 [a,b] ob K L=e1t a b (a0g K):=propext vF
theorem e9c {n:Option Nat} {k q:Nat} {x i:Opd} {a b:V}:o6 P (.aix n k q x i) n0 [a,b] ob K L=e1z n k q a b (a0g K):=propext vF
theorem e9d {k q:Nat} {x i:Opd} {a b:V}:o6 P (.aad k q x i) n0 [a,b] ob K L=e2a k q a b (a0g K):=propext vF
theorem e94 {i:Nat} {x:Opd} {a:V}:o6 P (.ext i x) n0 [a] ob K L=d5s i a (a0g K):=propext vF
theorem at_len {t:Bool} {x:Opd} {a:V}:o6 P (.len t x) n0 [a] ob K L=sLen t a (a0g K):=propext vF
theorem f6b {mx:Bool} {x y:Opd} {a b:V}:o6 P (.mm mx x y) n0 [a,b] ob K L=sMm mx a b (a0g K):=propext vF
theorem d36 {zs:List V} {t:Option TypeId}:o6 P (.alloc zs t) n0 vs ob K L=K ⟨.ptr n0 0,[],[(n0,.cells zs t)]⟩:=by unfold o6;rfl
theorem e96 {x:Opd} {a:V}:o6 P (.box x) n0 [a] ob K L=d5w n0 a K:=propext vF
theorem c8r {k:Nat} {xs:List Opd} {uv:Bool}:o6 P (.bslice k xs uv) n0 vs ob K L=bif vs.all (a3f k) then K ⟨.osl n0 k 0 vs.length,[],[(n0,.arr k vs (uvT uv))]⟩ else False:=by unfold o6;rfl
theorem e8w {x:Opd} {a:V}:o6 P (.mks x) n0 [a] ob K L=c9j a ob K:=propext vF
theorem e8s {x:Opd} {a:V}:o6 P (.s2b x) n0 [a] ob K L=d5d n0 a K:=propext vF
theorem e0n {k bytes:Nat} {z:V} {l m:Opd} {a b:V}:o6 P (.mksl k bytes z l m) n0 [a,b] ob K L=c09 k bytes n0 z a b K:=propext vF
theorem e9b {k bytes:Nat} {x y:Opd} {ty:Option TypeId} {a b:V}:o6 P (.app k bytes x y ty) n0 [a,b] ob K L=c1u k bytes n0 ty a b ob K:=propext vF
theorem e0r {f:Opd} {args:List Opd} {ids news:List Nat} {g:V}:o6 P (.call f args ids news) n0 (g::vs) ob K L=b3n P g vs ids news ob (L):=propext vF
@[go_sem] def c7y (K:Eff→Prop):Option (List V)→Prop
 | some cs=>a0g K (.agg cs)
 | none=>False
theorem e8x {k:Nat} {xs:List Opd}:o6 P (.lsl k xs) n0 vs ob K L=bif vs.all (a3f k) then a0g K (.sl vs) else False:=by unfold o6;rfl
theorem e0q {x:Opd} {a:V}:o6 P (.ls2b x) n0 [a] ob K L=c3q a (a0g K):=propext vF
theorem e0s {k:Nat} {zs:List V} {xs:List Opd}:o6 P (.barr k zs xs) n0 vs ob K L=c7y K (b0g zs (a2m k 0 vs)):=by
 unfold o6 c7y;rfl
theorem d35 {zs:List V} {ps:List (Nat×Nat×Opd)}:o6 P (.build zs ps) n0 vs ob K L=c7y K (b0g zs ((ps.zip vs).map fun p=>(p.1.1,p.1.2.1,p.2))):=by
 unfold o6 c7y;rfl
end
theorem c5k (n m:Nat):Nat.beq n m=(n==m):=by
 cases hb:Nat.beq n m with
 | true=>rw [zR hb];simp
 | false =>
  have:n≠m:=fun e=>by rw [e,wW] at hb;cases hb
  simp [this]
theorem g2e (n m:Nat):Nat.ble n m=decide (n≤m):=by
 cases hb:Nat.ble n m with
 | true=>have:=zQ hb;simp [this]
 | false =>
  have:¬n≤m:=fun e=>by rw [Nat.ble_eq_true_of_le e] at hb;cases hb
  simp [this]
theorem d2g {n m:Nat} {x:V} {r:List (Nat×V)}:get n ((m,x)::r)=bif n==m then x else get n r:=by simp only [get,c5k]
theorem d9t {n:Nat}:get n []=.any:=rfl
theorem c7x {α:Type} {n m:Nat} {x:α} {r:List (Nat×α)}:find n ((m,x)::r)=bif n==m then some x else find n r:=by simp only [find,c5k]
theorem d2l {α:Type} {n:Nat}:find n ([]:List (Nat×α))=none:=rfl
theorem d0r {α:Type} {n m:Nat} {x y:α} {r:List (Nat×α)}:put n x ((m,y)::r)=bif n==m then (m,x)::r else (m,y)::put n x r:=by simp only [put,c5k]
theorem d68 {α:Type} {n:Nat} {x:α}:put n x []=[(n,x)]:=rfl
theorem d2s {α:Type} {n m:Nat} {x:α} {r:List (Nat×α)}:del n ((m,x)::r)=bif n==m then del n r else (m,x)::del n r:=by simp only [del,c5k]
theorem e02 {α:Type} {n:Nat}:del n ([]:List (Nat×α))=[]:=rfl
theorem d6f {n:Nat}:c48 h n=find n h:=rfl
theorem d9i {n id o:Nat}:(V.ptr id o).has n=(n==id):=by simp only [V.has,c5k]
theorem d9j {n id k l m:Nat}:(V.osl id k l m).has n=(n==id):=by simp only [V.has,c5k]
theorem d23 {n id k l m:Nat}:(V.optr id k l m).has n=(n==id):=by simp only [V.has,c5k]
theorem d2c {n id:Nat}:(V.bptr id).has n=(n==id):=by simp only [V.has,c5k]
theorem d24 {n id:Nat}:(V.omap id).has n=(n==id):=by simp only [V.has,c5k]
theorem d9o {n:Nat} {cs:List V}:(V.agg cs).has n=V.hasL n cs:=by simp only [V.has]
theorem d9g {n:Nat} {cs:List V}:(V.tup cs).has n=V.hasL n cs:=by simp only [V.has]
theorem e6x {n:Nat} {f:Fn} {cs:List V}:(V.fn f cs).has n=V.hasL n cs:=by simp only [V.has]
theorem d2d {n:Nat} {b:Bool}:(V.bool b).has n=false:=by simp only [V.has]
theorem d9k {n:Nat} {k:IntKind} {x:Int}:(V.int k x).has n=false:=by simp only [V.has]
theorem d9h {n:Nat} {x:List UInt8}:(V.str x).has n=false:=by simp only [V.has]
theorem e6w {n:Nat} {x:List V}:(V.sl x).has n=false:=by simp only [V.has]
theorem d25 {n:Nat}:V.nils.has n=false:=by simp only [V.has]
theorem d26 {n:Nat}:V.nilp.has n=false:=by simp only [V.has]
theorem d27 {n:Nat}:V.nilm.has n=false:=by simp only [V.has]
theorem d29 {n:Nat}:V.nilf.has n=false:=by simp only [V.has]
theorem d28 {n:Nat}:V.nili.has n=false:=by simp only [V.has]
theorem d9n {n:Nat}:V.any.has n=false:=by simp only [V.has]
theorem d2a {n o:Nat} {x:V}:(V.eptr x o).has n=false:=by simp only [V.has]
theorem d2e {n:Nat}:V.hasL n []=false:=by simp only [V.hasL]
theorem c7m {n:Nat} {x:V} {l:List V}:V.hasL n (x::l)=(x.has n||V.hasL n l):=by simp only [V.hasL]
theorem c4u {σ:St} {H:Heap}:a0x H σ []=true:=rfl
theorem c1f {n:Nat} {l:List Nat} {H:Heap}:a0x H ⟨e,h⟩ (n::l)=((find n H).isNone&&a7v n e&&a0w n h&&a0x H ⟨e,h⟩ l):=by
 simp only [a0x];cases find n H<;>rfl
theorem kX_bl' {id n:Nat}:kX c (.bl id::s) n ⟨e,h⟩=bif n==id then kN c s ⟨e,h⟩ else kX c s n ⟨e,h⟩:=by rw [f5h,c5k]
theorem d84 {n:Nat}:mem n []=false:=rfl
theorem c6n {n m:Nat} {l:List Nat}:mem n (m::l)=(n==m||mem n l):=by simp only [mem,c5k]
def f2a (H:Heap) (σ:St) (i:Nat) (a:List (List Nat)) (l:List Ent):Prop:=a3u H σ i a l=true
theorem e0a {H:Heap} {σ:St} {i:Nat} {a:List (List Nat)} {l:List Ent} (h:a3u H σ i a l=true):f2a H σ i a l:=h
def opsD (c:Cfg) (anc:List (List Nat)) (e0:List (Nat×V)) (h0:Heap) (ms:List MOp) (log:List Ent) (s:List Fr) (σ:St):Prop :=
 c69 c.P c.H0 ms log σ fun log σ'=>a3u c.H0 ⟨e0,h0⟩ 0 anc log.reverse=true∧kN c s σ'
def aftD (c:Cfg) (anc:List (List Nat)) (e0:List (Nat×V)) (h0:Heap) (d:Option Nat) (u t m:List Nat) (r:List MOp) (log:List Ent) (s:List Fr) (e:List (Nat×V)) (h:Heap) (f:Eff):Prop :=
 opsD c anc e0 h0 r (⟨d,some f,u,t,m⟩::log) s (St.app ⟨e,h⟩ d f)
def lokD (c:Cfg) (anc:List (List Nat)) (e0:List (Nat×V)) (h0:Heap) (d:Option Nat) (u t m:List Nat) (r:List MOp) (log:List Ent) (s:List Fr) (e:List (Nat×V)) (h:Heap) (f:Eff):Prop :=
 aftD c anc e0 h0 d u t m r log s e h f
def insG (c:Cfg) (anc:List (List Nat)) (e0:List (Nat×V)) (h0:Heap) (i:y7) (d:Option Nat) (gs:List Nat) (r:List MOp) (log:List Ent) (s:List Fr) (e:List (Nat×V)) (h:Heap):Prop :=
 bif a0x c.H0 ⟨e,h⟩ (i.creates (d.getD 0)) then
  a0j c.P i (d.getD 0) (i.opds.map (·.ev e)) (c48 h) (aftD c anc e0 h0 d (gs++slotsOf i.opds) (i.touch (i.opds.map (·.ev e))) (i.creates (d.getD 0)) r log s e h)
   (lokD c anc e0 h0 d (gs++slotsOf i.opds) (i.touch (i.opds.map (·.ev e))) (i.creates (d.getD 0)) r log s e h)
 else False
def opsDG (c:Cfg) (anc:List (List Nat)) (e0:List (Nat×V)) (h0:Heap) (i:y7) (d:Option Nat) (t:Nat) (want:Bool) (r:List MOp) (log:List Ent) (s:List Fr) (e:List (Nat×V)) (h:Heap) (v:V):Prop :=
 match v with
 | .bool b=>a4p b want (insG c anc e0 h0 i d [t] r log s (put t (.bool want) e) h) (opsD c anc e0 h0 r (⟨d,none,[t],[],[]⟩::log) s ⟨a7h d (put t (.bool (!want)) e),h⟩)
 | .tup []=>opsD c anc e0 h0 r (⟨d,none,[t],[],[]⟩::log) s ⟨a7h d e,h⟩
 | _=>False
section
variable {P:Program} {n0:Nat} {vs:List V} {ob:Nat→Option a03} {K L:Eff→Prop}
theorem f5s {x:Opd}:a0j P (.mv x) n0 vs ob K L=o6 P (.mv x) n0 vs ob K L:=propext vF
theorem e03 {x y z:Opd}:a0j P (.pick x y z) n0 vs ob K L=o6 P (.pick x y z) n0 vs ob K L:=propext vF
theorem d2u {zs:List V} {t:Option TypeId}:a0j P (.alloc zs t) n0 vs ob K L=o6 P (.alloc zs t) n0 vs ob K L:=propext vF
theorem e89 {x:Opd}:a0j P (.box x) n0 vs ob K L=o6 P (.box x) n0 vs ob K L:=propext vF
theorem d2t {zs:List V} {ps:List (Nat×Nat×Opd)}:a0j P (.build zs ps) n0 vs ob K L=o6 P (.build zs ps) n0 vs ob K L:=propext vF
theorem c86 {k:Nat} {xs:List Opd} {uv:Bool}:a0j P (.bslice k xs uv) n0 vs ob K L=o6 P (.bslice k xs uv) n0 vs ob K L:=propext vF
theorem f5v {n:Option Nat} {x:Opd}:a0j P (.ld n x) n0 vs ob K L=o6 P (.ld n x) n0 vs ob K L:=propext vF
theorem f5r {n:Nat} {x y:Opd}:a0j P (.st n x y) n0 vs ob K L=o6 P (.st n x y) n0 vs ob K L:=propext vF
theorem e7n {x:Opd}:a0j P (.nck x) n0 vs ob K L=o6 P (.nck x) n0 vs ob K L:=propext vF
theorem e8b {ch:Bool} {op:BinOp} {x y:Opd}:a0j P (.bin ch op x y) n0 vs ob K L=o6 P (.bin ch op x y) n0 vs ob K L:=propext vF
theorem e07 {m:Nat} {x:Opd} {k:IntKind}:a0j P (.mask m x k) n0 vs ob K L=o6 P (.mask m x k) n0 vs ob K L:=propext vF
theorem e8c {ng:Bool} {x y:Opd}:a0j P (.beq ng x y) n0 vs ob K L=o6 P (.beq ng x y) n0 vs ob K L:=propext vF
theorem e85 {ng:Bool} {ks:List Nat} {x y:Opd}:a0j P (.eqs ng ks x y) n0 vs ob K L=o6 P (.eqs ng ks x y) n0 vs ob K L:=propext vF
theorem e7l {x:Opd}:a0j P (.not x) n0 vs ob K L=o6 P (.not x) n0 vs ob K L:=propext vF
theorem e7m {ch:Bool} {x:Opd}:a0j P (.neg ch x) n0 vs ob K L=o6 P (.neg ch x) n0 vs ob K L:=propext vF
theorem e80 {ch:Bool} {k:IntKind} {x:Opd}:a0j P (.i2i ch k x) n0 vs ob K L=o6 P (.i2i ch k x) n0 vs ob K L:=propext vF
theorem e7y {x:Opd}:a0j P (.idc x) n0 vs ob K L=o6 P (.idc x) n0 vs ob K L:=propext vF
theorem e7r {x:Opd}:a0j P (.mks x) n0 vs ob K L=o6 P (.mks x) n0 vs ob K L:=propext vF
theorem e7i {x:Opd}:a0j P (.s2b x) n0 vs ob K L=o6 P (.s2b x) n0 vs ob K L:=propext vF
theorem e8d {x:Opd}:a0j P (.b2s x) n0 vs ob K L=o6 P (.b2s x) n0 vs ob K L:=propext vF
theorem e06 {f:Nat} {cap:List Opd}:a0j P (.mkfn f cap) n0 vs ob K L=o6 P (.mkfn f cap) n0 vs ob K L:=propext vF
theorem e05 {k bytes:Nat} {z:V} {l m:Opd}:a0j P (.mksl k bytes z l m) n0 vs ob K L=o6 P (.mksl k bytes z l m) n0 vs ob K L:=propext vF
theorem e7g {x:Opd} {lo hi:Option Opd}:a0j P (.sls x lo hi) n0 vs ob K L=o6 P (.sls x lo hi) n0 vs ob K L:=propext vF
theorem e7h {k:Nat} {x:Opd} {lo hi:Option Opd}:a0j P (.slc k x lo hi) n0 vs ob K L=o6 P (.slc k x lo hi) n0 vs ob K L:=propext vF
theorem e83 {off:Nat} {x:Opd}:a0j P (.fad off x) n0 vs ob K L=o6 P (.fad off x) n0 vs ob K L:=propext vF
theorem e82 {n:Option Nat} {off:Nat} {x:Opd}:a0j P (.fld n off x) n0 vs ob K L=o6 P (.fld n off x) n0 vs ob K L:=propext vF
theorem e7z {k:Nat} {x y:Opd}:a0j P (.iad k x y) n0 vs ob K L=o6 P (.iad k x y) n0 vs ob K L:=propext vF
theorem e7x {x y:Opd}:a0j P (.idx x y) n0 vs ob K L=o6 P (.idx x y) n0 vs ob K L:=propext vF
theorem e8h {n:Option Nat} {k q:Nat} {x i:Opd}:a0j P (.aix n k q x i) n0 vs ob K L=o6 P (.aix n k q x i) n0 vs ob K L:=propext vF
theorem e8i {k q:Nat} {x i:Opd}:a0j P (.aad k q x i) n0 vs ob K L=o6 P (.aad k q x i) n0 vs ob K L:=propext vF
theorem e7t {k:Nat} {xs:List Opd}:a0j P (.lsl k xs) n0 vs ob K L=o6 P (.lsl k xs) n0 vs ob K L:=propext vF
theorem e08 {x:Opd}:a0j P (.ls2b x) n0 vs ob K L=o6 P (.ls2b x) n0 vs ob K L:=propext vF
theorem e09 {k:Nat} {zs:List V} {xs:List Opd}:a0j P (.barr k zs xs) n0 vs ob K L=o6 P (.barr k zs xs) n0 vs ob K L:=propext vF
theorem e84 {i:Nat} {x:Opd}:a0j P (.ext i x) n0 vs ob K L=o6 P (.ext i x) n0 vs ob K L:=propext vF
theorem e7v {t:Bool} {x:Opd}:a0j P (.len t x) n0 vs ob K L=o6 P (.len t x) n0 vs ob K L:=propext vF
theorem e8f {k bytes:Nat} {x y:Opd} {ty:Option TypeId}:a0j P (.app k bytes x y ty) n0 vs ob K L=o6 P (.app k bytes x y ty) n0 vs ob K L:=propext vF
theorem f5t {mx:Bool} {x y:Opd}:a0j P (.mm mx x y) n0 vs ob K L=o6 P (.mm mx x y) n0 vs ob K L:=propext vF
end
section
variable {anc aft0:List (List Nat)} {e0:List (Nat×V)} {h0:Heap} {log:List Ent} {u t m gs:List Nat}
theorem go_regD {ms:List MOp}:go c (.regD ms aft0 anc) s ⟨e,h⟩=opsD c anc e h ms [] s ⟨e,h⟩:=propext vF
theorem opsD_nil:opsD c anc e0 h0 [] log s ⟨e,h⟩=(f2a c.H0 ⟨e0,h0⟩ 0 anc log.reverse∧kN c s ⟨e,h⟩):=propext vF
theorem opsD_ins:opsD c anc e0 h0 (⟨i,d,none⟩::r) log s ⟨e,h⟩=insG c anc e0 h0 i d [] r log s e h:=propext vF
theorem opsD_guard {n:Nat} {w:Bool}:opsD c anc e0 h0 (⟨i,d,some (n,w)⟩::r) log s ⟨e,h⟩=opsDG c anc e0 h0 i d n w r log s e h (get n e):=propext vF
theorem insG_eq:insG c anc e0 h0 i d gs r log s e h=bif a0x c.H0 ⟨e,h⟩ (i.creates (d.getD 0)) then
  a0j c.P i (d.getD 0) (i.opds.map (·.ev e)) (c48 h) (aftD c anc e0 h0 d (gs++slotsOf i.opds) (i.touch (i.opds.map (·.ev e))) (i.creates (d.getD 0)) r log s e h)
   (lokD c anc e0 h0 d (gs++slotsOf i.opds) (i.touch (i.opds.map (·.ev e))) (i.creates (d.getD 0)) r log s e h)
 else False:=propext vF
theorem c3l {P:Program} {n0:Nat} {vs:List V} {ob:Nat→Option a03} {K L:Eff→Prop} {f:Opd} {args:List Opd} {ids news:List Nat} {g:V} :
  a0j P (.call f args ids news) n0 (g::vs) ob K L=b4g P g vs ids news ob L:=rfl
theorem aftD_eq {v:V} {dr:List Nat} {nw:List (Nat×a03)}:aftD c anc e0 h0 d u t m r log s e h ⟨v,dr,nw⟩=opsD c anc e0 h0 r (⟨d,some ⟨v,dr,nw⟩,u,t,m⟩::log) s ⟨c3o d v e,puts nw (c84 dr h)⟩:=propext vF
theorem aftD_comp {v:V}:a0g (aftD c anc e0 h0 d u t m r log s e h) v=opsD c anc e0 h0 r (⟨d,some ⟨v,[],[]⟩,u,t,m⟩::log) s ⟨c3o d v e,h⟩:=propext vF
theorem aftD_up {id:Nat} {o:a03}:a6w (aftD c anc e0 h0 d u t m r log s e h) id o=opsD c anc e0 h0 r (⟨d,some ⟨.any,[],[(id,o)]⟩,u,t,m⟩::log) s ⟨c3o d .any e,put id o h⟩:=propext vF
theorem lokD_eq {f:Eff}:lokD c anc e0 h0 d u t m r log s e h f=aftD c anc e0 h0 d u t m r log s e h f:=propext vF
theorem lokD_comp {v:V}:a0g (lokD c anc e0 h0 d u t m r log s e h) v=a0g (aftD c anc e0 h0 d u t m r log s e h) v:=propext vF
theorem lokD_compU {id:Nat} {o:a03}:a6w (lokD c anc e0 h0 d u t m r log s e h) id o=a6w (aftD c anc e0 h0 d u t m r log s e h) id o:=propext vF
theorem opsDG_bool {n:Nat} {w b:Bool}:opsDG c anc e0 h0 i d n w r log s e h (.bool b) =
  a4p b w (insG c anc e0 h0 i d [n] r log s (put n (.bool w) e) h) (opsD c anc e0 h0 r (⟨d,none,[n],[],[]⟩::log) s ⟨a7h d (put n (.bool (!w)) e),h⟩):=propext vF
theorem opsDG_tup {n:Nat} {w:Bool}:opsDG c anc e0 h0 i d n w r log s e h (.tup [])=opsD c anc e0 h0 r (⟨d,none,[n],[],[]⟩::log) s ⟨a7h d e,h⟩:=propext vF
theorem opsDG_tt {n:Nat}:opsDG c anc e0 h0 i d n true r log s e h (.bool true)=insG c anc e0 h0 i d [n] r log s (put n (.bool true) e) h:=by rw [opsDG_bool,b07]
theorem opsDG_ff {n:Nat}:opsDG c anc e0 h0 i d n false r log s e h (.bool false)=insG c anc e0 h0 i d [n] r log s (put n (.bool false) e) h:=by rw [opsDG_bool,b7p]
theorem opsDG_tf {n:Nat}:opsDG c anc e0 h0 i d n false r log s e h (.bool true)=opsD c anc e0 h0 r (⟨d,none,[n],[],[]⟩::log) s ⟨a7h d (put n (.bool true) e),h⟩:=by rw [opsDG_bool,b7o];rfl
theorem opsDG_ft {n:Nat}:opsDG c anc e0 h0 i d n true r log s e h (.bool false)=opsD c anc e0 h0 r (⟨d,none,[n],[],[]⟩::log) s ⟨a7h d (put n (.bool false) e),h⟩:=by rw [opsDG_bool,b08];rfl
theorem a9a {n:Nat} {p:Prop} [Decidable p]:opsDG c anc e0 h0 i d n true r log s e h (.bool (decide p)) =
  ((p→insG c anc e0 h0 i d [n] r log s (put n (.bool true) e) h)∧(¬p→opsD c anc e0 h0 r (⟨d,none,[n],[],[]⟩::log) s ⟨a7h d (put n (.bool false) e),h⟩)):=by
 rw [opsDG_bool];simp [a4p]
theorem a9b {n:Nat} {p:Prop} [Decidable p]:opsDG c anc e0 h0 i d n false r log s e h (.bool (decide p)) =
  ((¬p→insG c anc e0 h0 i d [n] r log s (put n (.bool false) e) h)∧(p→opsD c anc e0 h0 r (⟨d,none,[n],[],[]⟩::log) s ⟨a7h d (put n (.bool true) e),h⟩)):=by
 rw [opsDG_bool];simp [a4p]
end
theorem go_loop {b:MC} {α:Type} (I:α→St) (p:α→Prop) (μ:α→Nat) (ns:List a5r) (h0:a0f c.H0 ns ⟨e,h⟩ fun σ'=>∃x,p x∧a0p (I x) σ')
  (round:∀x,p x→factsSt (I x)→go ⟨c.P,c.H0,fun σ'=>Lk (a0f c.H0 ns σ' fun σ'=>∃y,p y∧μ y<μ x∧a0p (I y) σ'),kX c s,c.R⟩ b [] (I x)):go c (.loop b) s ⟨e,h⟩:=by
 unfold go MWP
 refine Lk.mk ⟨α,I,p,μ,ns,h0,fun x hp hf=>?_⟩
 have:=round x hp hf
 unfold go at this
 have e1:kN ⟨c.P,c.H0,fun σ'=>Lk (a0f c.H0 ns σ' fun σ'=>∃y,p y∧μ y<μ x∧a0p (I y) σ'),kX c s,c.R⟩ []=fun σ'=>Lk (a0f c.H0 ns σ' fun σ'=>∃y,p y∧μ y<μ x∧a0p (I y) σ'):=by funext σ;simp only [kN]
 have e2:kX ⟨c.P,c.H0,fun σ'=>Lk (a0f c.H0 ns σ' fun σ'=>∃y,p y∧μ y<μ x∧a0p (I y) σ'),kX c s,c.R⟩ []=kX c s:=by funext n σ;simp only [kX]
 rw [e1,e2] at this
 exact this
theorem go_grp {ms:List MOp} {its:List It} {α:Type} (I:α→St) (p:α→Prop) (h1:ops ⟨c.P,c.H0,fun σ'=>Lk (∃y,p y∧a0p (I y) σ'),fun _ _=>False,fun _=>False⟩ ms [] ⟨e,h⟩)
  (h2:∀y,p y→factsSt (I y)→kN c (.it its::s) (I y)):grpC c ms its s ⟨e,h⟩:=by
 unfold grpC
 refine Lk.mk ⟨α,I,p,?_,h2⟩
 unfold ops at h1
 have e1:kN ⟨c.P,c.H0,fun σ'=>Lk (∃y,p y∧a0p (I y) σ'),fun _ _=>False,fun _=>False⟩ []=fun σ'=>Lk (∃y,p y∧a0p (I y) σ'):=by funext σ;simp only [kN]
 rw [e1] at h1
 exact h1
end
theorem go_cut {c:Cfg} {e:List (Nat×V)} {h:Heap} {s:List Fr} {a b:MC} {α:Type} (I:α→St) (p:α→Prop) (ns:List a5r)
  (h1:go ⟨c.P,c.H0,fun σ'=>Lk (a0f c.H0 ns σ' fun σ'=>∃y,p y∧a0p (I y) σ'),kX c s,c.R⟩ a [] ⟨e,h⟩) (h2:∀y,p y→factsSt (I y)→go c b s (I y)):go c (.cut a b) s ⟨e,h⟩:=by
 unfold go MWP
 refine Lk.mk ⟨α,I,p,ns,?_,h2⟩
 unfold go at h1
 have e1:kN ⟨c.P,c.H0,fun σ'=>Lk (a0f c.H0 ns σ' fun σ'=>∃y,p y∧a0p (I y) σ'),kX c s,c.R⟩ []=fun σ'=>Lk (a0f c.H0 ns σ' fun σ'=>∃y,p y∧a0p (I y) σ'):=by funext σ;simp only [kN]
 have e2:kX ⟨c.P,c.H0,fun σ'=>Lk (a0f c.H0 ns σ' fun σ'=>∃y,p y∧a0p (I y) σ'),kX c s,c.R⟩ []=kX c s:=by funext n σ;simp only [kX]
 rw [e1,e2] at h1
 exact h1
def MC.straight:MC→Bool
 | .skip=>true
 | .reg _=>true
 | .regI _=>true
 | .regD _ _ _=>true
 | .seq a b=>a.straight&&b.straight
 | _=>false
theorem a8a {P:Program} {H0:Heap} {X X':Nat→St→Prop} {R R':St→Prop}:∀{a:MC} {K:St→Prop} {σ:St},a.straight=true→MWP P H0 a K X R σ=MWP P H0 a K X' R' σ
 | .skip,_,_,_=>by simp only [MWP]
 | .reg _,_,_,_=>by simp only [MWP]
 | .regI _,_,_,_=>by simp only [MWP]
 | .regD _ _ _,_,_,_=>by simp only [MWP]
 | .seq a b,K,σ,h=>by
  simp only [MC.straight,xY] at h
  simp only [MWP]
  rw [a8a (a:=a) h.1]
  congr 1
  funext σ'
  exact a8a (a:=b) h.2
 | .cut _ _,_,_,h=>by simp [MC.straight] at h
 | .cond _ _ _,_,_,h=>by simp [MC.straight] at h
 | .block _ _,_,_,h=>by simp [MC.straight] at h
 | .loop _,_,_,h=>by simp [MC.straight] at h
 | .note _ _,_,_,h=>by simp [MC.straight] at h
 | .hnote _ _,_,_,h=>by simp [MC.straight] at h
 | .no,_,_,h=>by simp [MC.straight] at h
 | .rngF _ _ _ _,_,_,h=>by simp [MC.straight] at h
 | .ret,_,_,h=>by simp [MC.straight] at h
 | .exit _,_,_,h=>by simp [MC.straight] at h
theorem go_rngF {c:Cfg} {e:List (Nat×V)} {h:Heap} {s:List Fr} {q:Opd} {ps:List Nat} {a b:MC} {gf:Nat} {caps:List V} {α:Type} (Hc:Heap) (xss:List (List V)) (pins:List Nat) (I:Nat→α→Heap) (p:Nat→α→Prop) (ns:List a5r)
  (hq:q.ev e=.fn (.func gf) caps) (hit:c9h c.P gf caps Hc xss) (hsc:a0p ⟨[],Hc⟩ ⟨e,h⟩) (hpin:c1d pins e=true) (hxs:∀xs∈xss,xs.length=ps.length∧V.withinL [] xs=true) (h0:∃x,p 0 x∧a0p ⟨[],I 0 x⟩ ⟨e,h⟩∧∀q∈Hc,find q.1 (I 0 x)=none)
  (round:∀k x xs,xss[k]?=some xs→p k x→b36 (I k x)→go ⟨c.P,b8k c.H0 pins,fun σ'=>Lk (a0f (b8k c.H0 pins) ns σ' fun σ'=>∃y,p (k+1) y∧a0p ⟨[],I (k+1) y⟩ σ'),fun i σ'=>kX c s i ⟨e,σ'.heap⟩,fun σ'=>c.R ⟨e,σ'.heap⟩⟩ (.seq a b) [] ⟨b7g ps xs e,I k x⟩)
  (ha:a.straight=true) (hdone:∀x,p xss.length x→kN c s ⟨e,I xss.length x⟩):go c (.rngF q ps a b) s ⟨e,h⟩:=by
 unfold go MWP
 simp only [hq]
 refine Lk.mk ⟨Hc,xss,pins,α,I,p,ns,hit,hsc,hpin,hxs,h0,fun k x xs hk hp hf=>?_,hdone⟩
 have:=round k x xs hk hp hf
 unfold go MWP at this
 have e1:∀(P:Program) (H:Heap) (K:St→Prop) (X:Nat→St→Prop) (R:St→Prop),kN ⟨P,H,K,X,R⟩ []=K:=fun _ _ _ _ _=>by funext σ;simp only [kN]
 have e2:∀(P:Program) (H:Heap) (K:St→Prop) (X:Nat→St→Prop) (R:St→Prop),kX ⟨P,H,K,X,R⟩ []=X:=fun _ _ _ _ _=>by funext n σ;simp only [kX]
 rw [e1,e2] at this
 simp only [MWP] at this
 rw [a8a ha]
 exact this
theorem c1t {P:Program} {n:Nat} {args:List V} {cap:List V} {ids news:List Nat} {ob:Nat→Option a03} {L:Eff→Prop} {H H1:Heap} {r:V} (hc:l9 P n (args++cap) H (fun r' H'=>r'=r∧H'=H1)) (hs:b8c ids ob=some H)
  (hi:b1t H1 ids news=true) (hl:L ⟨r,ids,H1⟩):b3n P (.fn (.func n) cap) args ids news ob L:=by
 unfold b3n
 simp only [hs]
 exact hc.mono fun r' H' ⟨e1,e2⟩=>by subst e1;subst e2;rw [hi];exact hl
theorem c63 {P:Program} {n:Nat} {args:List V} {cap:List V} {ids news:List Nat} {ob:Nat→Option a03} {L:Eff→Prop} {H H1:Heap} {r:V} (hc:l9 P n (args++cap) H (fun r' H'=>r'=r∧H'=H1)) (hs:b8c ids ob=some H)
  (hi:b1t H1 ids news=true) (hl:L ⟨r,ids,H1⟩):b4g P (.fn (.func n) cap) args ids news ob L:=by
 unfold b4g
 simp only [hs]
 exact ⟨r,H1,hc,hi,hl⟩
theorem c3c {P:Program} {f:Nat} {fn:Func} {code:Code} {mc:MC} {args:List V} {H:Heap} {Q:V→Heap→Prop} (ns:List a5r) (rids:List Nat) (rs:List RS) (hf:P.funcs[f]?=some fn) (hb:fn.body=some code) (hc:callable P f=true)
  (hnh:mc.nh=true) (hok:mc.ok P fn.ntmps code=true) (hrs:a7b P rs fn.results.toList=true) (hn:Nat.ble args.length fn.ntmps=true) (hg:St.good ⟨a4s 0 args,H⟩=true)
  (h:factsSt ⟨a4s 0 args,H⟩→go ⟨P,H,a2c H ns rids rs Q,fun _ _=>False,a2c H ns rids rs Q⟩ mc [] ⟨a4s 0 args,H⟩):l9 P f args H Q:=by
 refine c8y ns rids rs hf hb hc hnh hok hrs hn hg fun hfa=>?_
 have:=h hfa
 unfold go at this
 have e1:kN ⟨P,H,a2c H ns rids rs Q,fun _ _=>False,a2c H ns rids rs Q⟩ []=a2c H ns rids rs Q:=by funext σ;simp only [kN]
 have e2:kX ⟨P,H,a2c H ns rids rs Q,fun _ _=>False,a2c H ns rids rs Q⟩ []=fun _ _=>False:=by funext n σ;simp only [kX]
 rw [e1,e2] at this
 exact this
attribute [irreducible] f2a
def ints (l:List Int):V:=.sl (l.map fun n=>.int .i64 n)
def tape (l:List Int) (k:Nat):a03:=.cells [ints l,.int .i64 k]
structure a0r where
 grpC:Cfg→List MOp→List It→List Fr→St→Prop
 kN:Cfg→List Fr→St→Prop
 kX:Cfg→List Fr→Nat→St→Prop
 go:Cfg→MC→List Fr→St→Prop
 ops:Cfg→List MOp→List Fr→St→Prop
 aft:Cfg→Option Nat→List MOp→List Fr→List (Nat×V)→Heap→Eff→Prop
 lok:Cfg→Option Nat→List MOp→List Fr→List (Nat×V)→Heap→Eff→Prop
 b5v:Cfg→y7→Option Nat→Nat→Bool→List MOp→List Fr→List (Nat×V)→Heap→V→Prop
 goC:Cfg→Opd→MC→MC→List Fr→List (Nat×V)→Heap→V→Prop
 opsD:Cfg→List (List Nat)→List (Nat×V)→Heap→List MOp→List Ent→List Fr→St→Prop
 aftD:Cfg→List (List Nat)→List (Nat×V)→Heap→Option Nat→List Nat→List Nat→List Nat→List MOp→List Ent→List Fr→List (Nat×V)→Heap→Eff→Prop
 lokD:Cfg→List (List Nat)→List (Nat×V)→Heap→Option Nat→List Nat→List Nat→List Nat→List MOp→List Ent→List Fr→List (Nat×V)→Heap→Eff→Prop
 insG:Cfg→List (List Nat)→List (Nat×V)→Heap→y7→Option Nat→List Nat→List MOp→List Ent→List Fr→List (Nat×V)→Heap→Prop
 opsDG:Cfg→List (List Nat)→List (Nat×V)→Heap→y7→Option Nat→Nat→Bool→List MOp→List Ent→List Fr→List (Nat×V)→Heap→V→Prop
 go_regI:∀{c:Cfg} {e:List (Nat×V)} {h:Heap} {s:List Fr} {its:List It},go c (.regI its) s ⟨e,h⟩=kN c (.it its::s) ⟨e,h⟩
 kN_it_nil:∀{c:Cfg} {e:List (Nat×V)} {h:Heap} {s:List Fr},kN c (.it []::s) ⟨e,h⟩=kN c s ⟨e,h⟩
 kN_it_op:∀{c:Cfg} {e:List (Nat×V)} {h:Heap} {s:List Fr} {m:MOp} {its:List It},kN c (.it (.op m::its)::s) ⟨e,h⟩=ops c [m] (.it its::s) ⟨e,h⟩
 kN_it_nt:∀{c:Cfg} {e:List (Nat×V)} {h:Heap} {s:List Fr} {n:a5r} {its:List It},kN c (.it (.nt n::its)::s) ⟨e,h⟩=a0e c.H0 n ⟨e,h⟩ (kN c (.it its::s))
 kN_it_grp:∀{c:Cfg} {e:List (Nat×V)} {h:Heap} {s:List Fr} {ms:List MOp} {its:List It},kN c (.it (.grp ms::its)::s) ⟨e,h⟩=grpC c ms its s ⟨e,h⟩
 kX_it:∀{c:Cfg} {e:List (Nat×V)} {h:Heap} {s:List Fr} {its:List It} {n:Nat},kX c (.it its::s) n ⟨e,h⟩=kX c s n ⟨e,h⟩
 go_seq:∀{c:Cfg} {e:List (Nat×V)} {h:Heap} {s:List Fr} {a b:MC},go c (.seq a b) s ⟨e,h⟩=go c a (.sq b::s) ⟨e,h⟩
 go_block:∀{c:Cfg} {e:List (Nat×V)} {h:Heap} {s:List Fr} {id:Nat} {b:MC},go c (.block id b) s ⟨e,h⟩=go c b (.bl id::s) ⟨e,h⟩
 go_skip:∀{c:Cfg} {e:List (Nat×V)} {h:Heap} {s:List Fr},go c .skip s ⟨e,h⟩=kN c s ⟨e,h⟩
 go_ret:∀{c:Cfg} {e:List (Nat×V)} {h:Heap} {s:List Fr},go c .ret s ⟨e,h⟩=c.R ⟨e,h⟩
 go_exit:∀{c:Cfg} {e:List (Nat×V)} {h:Heap} {s:List Fr} {id:Nat},go c (.exit id) s ⟨e,h⟩=kX c s id ⟨e,h⟩
 go_reg:∀{c:Cfg} {e:List (Nat×V)} {h:Heap} {s:List Fr} {ms:List MOp},go c (.reg ms) s ⟨e,h⟩=ops c ms s ⟨e,h⟩
 go_cond:∀{c:Cfg} {e:List (Nat×V)} {h:Heap} {s:List Fr} {x:Opd} {a b:MC},go c (.cond x a b) s ⟨e,h⟩=goC c x a b s e h (x.ev e)
 go_note:∀{c:Cfg} {e:List (Nat×V)} {h:Heap} {s:List Fr} {n:a5r} {b:MC},go c (.note n b) s ⟨e,h⟩=a0e c.H0 n ⟨e,h⟩ (go c b s)
 go_hnote:∀{c:Cfg} {e:List (Nat×V)} {h:Heap} {s:List Fr} {T:St→(St→Prop)→Prop} {b:MC},go c (.hnote T b) s ⟨e,h⟩=T ⟨e,h⟩ (go c b s)
 kN_nil:∀{c:Cfg} {e:List (Nat×V)} {h:Heap},kN c [] ⟨e,h⟩=c.K ⟨e,h⟩
 kN_sq:∀{c:Cfg} {e:List (Nat×V)} {h:Heap} {s:List Fr} {b:MC},kN c (.sq b::s) ⟨e,h⟩=go c b s ⟨e,h⟩
 kN_bl:∀{c:Cfg} {e:List (Nat×V)} {h:Heap} {s:List Fr} {id:Nat},kN c (.bl id::s) ⟨e,h⟩=kN c s ⟨e,h⟩
 kX_nil:∀{c:Cfg} {e:List (Nat×V)} {h:Heap} {n:Nat},kX c [] n ⟨e,h⟩=c.X n ⟨e,h⟩
 kX_sq:∀{c:Cfg} {e:List (Nat×V)} {h:Heap} {s:List Fr} {b:MC} {n:Nat},kX c (.sq b::s) n ⟨e,h⟩=kX c s n ⟨e,h⟩
 kX_bl':∀{c:Cfg} {e:List (Nat×V)} {h:Heap} {s:List Fr} {id n:Nat},kX c (.bl id::s) n ⟨e,h⟩=bif n==id then kN c s ⟨e,h⟩ else kX c s n ⟨e,h⟩
 ops_nil:∀{c:Cfg} {e:List (Nat×V)} {h:Heap} {s:List Fr},ops c [] s ⟨e,h⟩=kN c s ⟨e,h⟩
 ops_guard:∀{c:Cfg} {e:List (Nat×V)} {h:Heap} {s:List Fr} {r:List MOp} {d:Option Nat} {i:y7} {t:Nat} {w:Bool},ops c (⟨i,d,some (t,w)⟩::r) s ⟨e,h⟩=b5v c i d t w r s e h (get t e)
 ops_ins:∀{c:Cfg} {e:List (Nat×V)} {h:Heap} {s:List Fr} {r:List MOp} {d:Option Nat} {i:y7},ops c (⟨i,d,none⟩::r) s ⟨e,h⟩=bif a0x c.H0 ⟨e,h⟩ (i.creates (d.getD 0)) then o6 c.P i (d.getD 0) (i.opds.map (·.ev e)) (c48 h) (aft c d r s e h) (lok c d r s e h) else False
 aft_eq:∀{c:Cfg} {e:List (Nat×V)} {h:Heap} {s:List Fr} {r:List MOp} {d:Option Nat} {v:V} {dr:List Nat} {nw:List (Nat×a03)},aft c d r s e h ⟨v,dr,nw⟩=ops c r s ⟨c3o d v e,puts nw (c84 dr h)⟩
 aft_some:∀{c:Cfg} {e:List (Nat×V)} {h:Heap} {s:List Fr} {r:List MOp} {n:Nat} {v:V},a0g (aft c (some n) r s e h) v=ops c r s ⟨put n v e,h⟩
 aft_none:∀{c:Cfg} {e:List (Nat×V)} {h:Heap} {s:List Fr} {r:List MOp} {v:V},a0g (aft c none r s e h) v=ops c r s ⟨e,h⟩
 aft_up:∀{c:Cfg} {e:List (Nat×V)} {h:Heap} {s:List Fr} {r:List MOp} {n:Nat} {id:Nat} {o:a03},a6w (aft c (some n) r s e h) id o=ops c r s ⟨put n .any e,put id o h⟩
 aft_upn:∀{c:Cfg} {e:List (Nat×V)} {h:Heap} {s:List Fr} {r:List MOp} {id:Nat} {o:a03},a6w (aft c none r s e h) id o=ops c r s ⟨e,put id o h⟩
 lok_eq:∀{c:Cfg} {d:Option Nat} {r:List MOp} {s:List Fr} {e:List (Nat×V)} {h:Heap} {f:Eff},lok c d r s e h f=aft c d r s e h f
 lok_comp:∀{c:Cfg} {e:List (Nat×V)} {h:Heap} {s:List Fr} {r:List MOp} {d:Option Nat} {v:V},a0g (lok c d r s e h) v=a0g (aft c d r s e h) v
 lok_compU:∀{c:Cfg} {e:List (Nat×V)} {h:Heap} {s:List Fr} {r:List MOp} {d:Option Nat} {id:Nat} {o:a03},a6w (lok c d r s e h) id o=a6w (aft c d r s e h) id o
 opsG_tup:∀{c:Cfg} {e:List (Nat×V)} {h:Heap} {s:List Fr} {r:List MOp} {d:Option Nat} {i:y7} {t:Nat} {w:Bool},b5v c i d t w r s e h (.tup [])=ops c r s ⟨a7h d e,h⟩
 opsG_lit_tt:∀{c:Cfg} {e:List (Nat×V)} {h:Heap} {s:List Fr} {r:List MOp} {d:Option Nat} {i:y7} {t:Nat},b5v c i d t true r s e h (.bool true)=ops c (⟨i,d,none⟩::r) s ⟨put t (.bool true) e,h⟩
 opsG_lit_ff:∀{c:Cfg} {e:List (Nat×V)} {h:Heap} {s:List Fr} {r:List MOp} {d:Option Nat} {i:y7} {t:Nat},b5v c i d t false r s e h (.bool false)=ops c (⟨i,d,none⟩::r) s ⟨put t (.bool false) e,h⟩
 opsG_lit_tf:∀{c:Cfg} {e:List (Nat×V)} {h:Heap} {s:List Fr} {r:List MOp} {d:Option Nat} {i:y7} {t:Nat},b5v c i d t false r s e h (.bool true)=ops c r s ⟨a7h d (put t (.bool true) e),h⟩
 opsG_lit_ft:∀{c:Cfg} {e:List (Nat×V)} {h:Heap} {s:List Fr} {r:List MOp} {d:Option Nat} {i:y7} {t:Nat},b5v c i d t true r s e h (.bool false)=ops c r s ⟨a7h d (put t (.bool false) e),h⟩
 b1o:∀{c:Cfg} {e:List (Nat×V)} {h:Heap} {s:List Fr} {r:List MOp} {d:Option Nat} {i:y7} {t:Nat} {p:Prop} [Decidable p],b5v c i d t true r s e h (.bool (decide p)) =
  ((p→ops c (⟨i,d,none⟩::r) s ⟨put t (.bool true) e,h⟩)∧(¬p→ops c r s ⟨a7h d (put t (.bool false) e),h⟩))
 b1p:∀{c:Cfg} {e:List (Nat×V)} {h:Heap} {s:List Fr} {r:List MOp} {d:Option Nat} {i:y7} {t:Nat} {p:Prop} [Decidable p],b5v c i d t false r s e h (.bool (decide p)) =
  ((¬p→ops c (⟨i,d,none⟩::r) s ⟨put t (.bool false) e,h⟩)∧(p→ops c r s ⟨a7h d (put t (.bool true) e),h⟩))
 opsG_any:∀{c:Cfg} {e:List (Nat×V)} {h:Heap} {s:List Fr} {r:List MOp} {d:Option Nat} {i:y7} {t:Nat} {w:Bool} (b:Bool),b5v c i d t w r s e h (.bool b) =
  ((b=w→ops c (⟨i,d,none⟩::r) s ⟨put t (.bool w) e,h⟩)∧(b=(!w)→ops c r s ⟨a7h d (put t (.bool (!w)) e),h⟩))
 goC_t:∀{c:Cfg} {e:List (Nat×V)} {h:Heap} {s:List Fr} {n:Nat} {a b:MC},goC c (.t n) a b s e h (.bool true)=go c a s ⟨put n (.bool true) e,h⟩
 goC_f:∀{c:Cfg} {e:List (Nat×V)} {h:Heap} {s:List Fr} {n:Nat} {a b:MC},goC c (.t n) a b s e h (.bool false)=go c b s ⟨put n (.bool false) e,h⟩
 goC_ct:∀{c:Cfg} {e:List (Nat×V)} {h:Heap} {s:List Fr} {v:V} {a b:MC},goC c (.c v) a b s e h (.bool true)=go c a s ⟨e,h⟩
 goC_cf:∀{c:Cfg} {e:List (Nat×V)} {h:Heap} {s:List Fr} {v:V} {a b:MC},goC c (.c v) a b s e h (.bool false)=go c b s ⟨e,h⟩
 c0t:∀{c:Cfg} {e:List (Nat×V)} {h:Heap} {s:List Fr} {n:Nat} {a b:MC} {p:Prop} [Decidable p],goC c (.t n) a b s e h (.bool (decide p)) =
  ((p→go c a s ⟨put n (.bool true) e,h⟩)∧(¬p→go c b s ⟨put n (.bool false) e,h⟩))
 goC_any:∀{c:Cfg} {e:List (Nat×V)} {h:Heap} {s:List Fr} {n:Nat} {a b:MC} (t:Bool),goC c (.t n) a b s e h (.bool t) =
  ((t=true→go c a s ⟨put n (.bool true) e,h⟩)∧(t=false→go c b s ⟨put n (.bool false) e,h⟩))
 go_regD:∀{c:Cfg} {e:List (Nat×V)} {h:Heap} {s:List Fr} {anc:List (List Nat)} {aft0:List (List Nat)} {ms:List MOp},go c (.regD ms aft0 anc) s ⟨e,h⟩=opsD c anc e h ms [] s ⟨e,h⟩
 opsD_nil:∀{c:Cfg} {e:List (Nat×V)} {h:Heap} {s:List Fr} {anc:List (List Nat)} {e0:List (Nat×V)} {h0:Heap} {log:List Ent},opsD c anc e0 h0 [] log s ⟨e,h⟩=(f2a c.H0 ⟨e0,h0⟩ 0 anc log.reverse∧kN c s ⟨e,h⟩)
 opsD_ins:∀{c:Cfg} {e:List (Nat×V)} {h:Heap} {s:List Fr} {r:List MOp} {d:Option Nat} {i:y7} {anc:List (List Nat)} {e0:List (Nat×V)} {h0:Heap} {log:List Ent},opsD c anc e0 h0 (⟨i,d,none⟩::r) log s ⟨e,h⟩=insG c anc e0 h0 i d [] r log s e h
 opsD_guard:∀{c:Cfg} {e:List (Nat×V)} {h:Heap} {s:List Fr} {r:List MOp} {d:Option Nat} {i:y7} {anc:List (List Nat)} {e0:List (Nat×V)} {h0:Heap} {log:List Ent} {n:Nat} {w:Bool},opsD c anc e0 h0 (⟨i,d,some (n,w)⟩::r) log s ⟨e,h⟩=opsDG c anc e0 h0 i d n w r log s e h (get n e)
 insG_eq:∀{c:Cfg} {e:List (Nat×V)} {h:Heap} {s:List Fr} {r:List MOp} {d:Option Nat} {i:y7} {anc:List (List Nat)} {e0:List (Nat×V)} {h0:Heap} {log:List Ent} {gs:List Nat},insG c anc e0 h0 i d gs r log s e h=bif a0x c.H0 ⟨e,h⟩ (i.creates (d.getD 0)) then
  a0j c.P i (d.getD 0) (i.opds.map (·.ev e)) (c48 h) (aftD c anc e0 h0 d (gs++slotsOf i.opds) (i.touch (i.opds.map (·.ev e))) (i.creates (d.getD 0)) r log s e h)
   (lokD c anc e0 h0 d (gs++slotsOf i.opds) (i.touch (i.opds.map (·.ev e))) (i.creates (d.getD 0)) r log s e h)
 else False
 aftD_eq:∀{c:Cfg} {e:List (Nat×V)} {h:Heap} {s:List Fr} {r:List MOp} {d:Option Nat} {anc:List (List Nat)} {e0:List (Nat×V)} {h0:Heap} {log:List Ent} {u:List Nat} {t:List Nat} {m:List Nat} {v:V} {dr:List Nat} {nw:List (Nat×a03)},aftD c anc e0 h0 d u t m r log s e h ⟨v,dr,nw⟩=opsD c anc e0 h0 r (⟨d,some ⟨v,dr,nw⟩,u,t,m⟩::log) s ⟨c3o d v e,puts nw (c84 dr h)⟩
 aftD_comp:∀{c:Cfg} {e:List (Nat×V)} {h:Heap} {s:List Fr} {r:List MOp} {d:Option Nat} {anc:List (List Nat)} {e0:List (Nat×V)} {h0:Heap} {log:List Ent} {u:List Nat} {t:List Nat} {m:List Nat} {v:V},a0g (aftD c anc e0 h0 d u t m r log s e h) v=opsD c anc e0 h0 r (⟨d,some ⟨v,[],[]⟩,u,t,m⟩::log) s ⟨c3o d v e,h⟩
 aftD_up:∀{c:Cfg} {e:List (Nat×V)} {h:Heap} {s:List Fr} {r:List MOp} {d:Option Nat} {anc:List (List Nat)} {e0:List (Nat×V)} {h0:Heap} {log:List Ent} {u:List Nat} {t:List Nat} {m:List Nat} {id:Nat} {o:a03},a6w (aftD c anc e0 h0 d u t m r log s e h) id o=opsD c anc e0 h0 r (⟨d,some ⟨.any,[],[(id,o)]⟩,u,t,m⟩::log) s ⟨c3o d .any e,put id o h⟩
 lokD_eq:∀{c:Cfg} {e:List (Nat×V)} {h:Heap} {s:List Fr} {r:List MOp} {d:Option Nat} {anc:List (List Nat)} {e0:List (Nat×V)} {h0:Heap} {log:List Ent} {u:List Nat} {t:List Nat} {m:List Nat} {f:Eff},lokD c anc e0 h0 d u t m r log s e h f=aftD c anc e0 h0 d u t m r log s e h f
 lokD_comp:∀{c:Cfg} {e:List (Nat×V)} {h:Heap} {s:List Fr} {r:List MOp} {d:Option Nat} {anc:List (List Nat)} {e0:List (Nat×V)} {h0:Heap} {log:List Ent} {u:List Nat} {t:List Nat} {m:List Nat} {v:V},a0g (lokD c anc e0 h0 d u t m r log s e h) v=a0g (aftD c anc e0 h0 d u t m r log s e h) v
 lokD_compU:∀{c:Cfg} {e:List (Nat×V)} {h:Heap} {s:List Fr} {r:List MOp} {d:Option Nat} {anc:List (List Nat)} {e0:List (Nat×V)} {h0:Heap} {log:List Ent} {u:List Nat} {t:List Nat} {m:List Nat} {id:Nat} {o:a03},a6w (lokD c anc e0 h0 d u t m r log s e h) id o=a6w (aftD c anc e0 h0 d u t m r log s e h) id o
 opsDG_tup:∀{c:Cfg} {e:List (Nat×V)} {h:Heap} {s:List Fr} {r:List MOp} {d:Option Nat} {i:y7} {anc:List (List Nat)} {e0:List (Nat×V)} {h0:Heap} {log:List Ent} {n:Nat} {w:Bool},opsDG c anc e0 h0 i d n w r log s e h (.tup [])=opsD c anc e0 h0 r (⟨d,none,[n],[],[]⟩::log) s ⟨a7h d e,h⟩
 opsDG_tt:∀{c:Cfg} {e:List (Nat×V)} {h:Heap} {s:List Fr} {r:List MOp} {d:Option Nat} {i:y7} {anc:List (List Nat)} {e0:List (Nat×V)} {h0:Heap} {log:List Ent} {n:Nat},opsDG c anc e0 h0 i d n true r log s e h (.bool true)=insG c anc e0 h0 i d [n] r log s (put n (.bool true) e) h
 opsDG_ff:∀{c:Cfg} {e:List (Nat×V)} {h:Heap} {s:List Fr} {r:List MOp} {d:Option Nat} {i:y7} {anc:List (List Nat)} {e0:List (Nat×V)} {h0:Heap} {log:List Ent} {n:Nat},opsDG c anc e0 h0 i d n false r log s e h (.bool false)=insG c anc e0 h0 i d [n] r log s (put n (.bool false) e) h
 opsDG_tf:∀{c:Cfg} {e:List (Nat×V)} {h:Heap} {s:List Fr} {r:List MOp} {d:Option Nat} {i:y7} {anc:List (List Nat)} {e0:List (Nat×V)} {h0:Heap} {log:List Ent} {n:Nat},opsDG c anc e0 h0 i d n false r log s e h (.bool true)=opsD c anc e0 h0 r (⟨d,none,[n],[],[]⟩::log) s ⟨a7h d (put n (.bool true) e),h⟩
 opsDG_ft:∀{c:Cfg} {e:List (Nat×V)} {h:Heap} {s:List Fr} {r:List MOp} {d:Option Nat} {i:y7} {anc:List (List Nat)} {e0:List (Nat×V)} {h0:Heap} {log:List Ent} {n:Nat},opsDG c anc e0 h0 i d n true r log s e h (.bool false)=opsD c anc e0 h0 r (⟨d,none,[n],[],[]⟩::log) s ⟨a7h d (put n (.bool false) e),h⟩
 a9a:∀{c:Cfg} {e:List (Nat×V)} {h:Heap} {s:List Fr} {r:List MOp} {d:Option Nat} {i:y7} {anc:List (List Nat)} {e0:List (Nat×V)} {h0:Heap} {log:List Ent} {n:Nat} {p:Prop} [Decidable p],opsDG c anc e0 h0 i d n true r log s e h (.bool (decide p)) =
  ((p→insG c anc e0 h0 i d [n] r log s (put n (.bool true) e) h)∧(¬p→opsD c anc e0 h0 r (⟨d,none,[n],[],[]⟩::log) s ⟨a7h d (put n (.bool false) e),h⟩))
 a9b:∀{c:Cfg} {e:List (Nat×V)} {h:Heap} {s:List Fr} {r:List MOp} {d:Option Nat} {i:y7} {anc:List (List Nat)} {e0:List (Nat×V)} {h0:Heap} {log:List Ent} {n:Nat} {p:Prop} [Decidable p],opsDG c anc e0 h0 i d n false r log s e h (.bool (decide p)) =
  ((¬p→insG c anc e0 h0 i d [n] r log s (put n (.bool false) e) h)∧(p→opsD c anc e0 h0 r (⟨d,none,[n],[],[]⟩::log) s ⟨a7h d (put n (.bool true) e),h⟩))
 opsDG_bool:∀{c:Cfg} {e:List (Nat×V)} {h:Heap} {s:List Fr} {r:List MOp} {d:Option Nat} {i:y7} {anc:List (List Nat)} {e0:List (Nat×V)} {h0:Heap} {log:List Ent} {n:Nat} {w b:Bool},opsDG c anc e0 h0 i d n w r log s e h (.bool b) =
  a4p b w (insG c anc e0 h0 i d [n] r log s (put n (.bool w) e) h) (opsD c anc e0 h0 r (⟨d,none,[n],[],[]⟩::log) s ⟨a7h d (put n (.bool (!w)) e),h⟩)
 go_loop:∀{c:Cfg} {e:List (Nat×V)} {h:Heap} {s:List Fr} {b:MC} {α:Type} (I:α→St) (p:α→Prop) (μ:α→Nat) (ns:List a5r),(a0f c.H0 ns ⟨e,h⟩ fun σ'=>∃x,p x∧a0p (I x) σ') →
  (∀x,p x→factsSt (I x)→go ⟨c.P,c.H0,fun σ'=>Lk (a0f c.H0 ns σ' fun σ'=>∃y,p y∧μ y<μ x∧a0p (I y) σ'),kX c s,c.R⟩ b [] (I x))→go c (.loop b) s ⟨e,h⟩
 go_cut:∀{c:Cfg} {e:List (Nat×V)} {h:Heap} {s:List Fr} {a b:MC} {α:Type} (I:α→St) (p:α→Prop) (ns:List a5r),go ⟨c.P,c.H0,fun σ'=>Lk (a0f c.H0 ns σ' fun σ'=>∃y,p y∧a0p (I y) σ'),kX c s,c.R⟩ a [] ⟨e,h⟩ →
  (∀y,p y→factsSt (I y)→go c b s (I y))→go c (.cut a b) s ⟨e,h⟩
 go_grp:∀{c:Cfg} {e:List (Nat×V)} {h:Heap} {s:List Fr} {ms:List MOp} {its:List It} {α:Type} (I:α→St) (p:α→Prop),ops ⟨c.P,c.H0,fun σ'=>Lk (∃y,p y∧a0p (I y) σ'),fun _ _=>False,fun _=>False⟩ ms [] ⟨e,h⟩ →
  (∀y,p y→factsSt (I y)→kN c (.it its::s) (I y))→grpC c ms its s ⟨e,h⟩
 go_rngF:∀{c:Cfg} {e:List (Nat×V)} {h:Heap} {s:List Fr} {q:Opd} {ps:List Nat} {a b:MC} {gf:Nat} {caps:List V} {α:Type} (Hc:Heap) (xss:List (List V)) (pins:List Nat) (I:Nat→α→Heap) (p:Nat→α→Prop) (ns:List a5r),
  q.ev e=.fn (.func gf) caps→c9h c.P gf caps Hc xss→a0p ⟨[],Hc⟩ ⟨e,h⟩→c1d pins e=true→(∀xs∈xss,xs.length=ps.length∧V.withinL [] xs=true)→(∃x,p 0 x∧a0p ⟨[],I 0 x⟩ ⟨e,h⟩∧∀q∈Hc,find q.1 (I 0 x)=none) →
  (∀k x xs,xss[k]?=some xs→p k x→b36 (I k x)→go ⟨c.P,b8k c.H0 pins,fun σ'=>Lk (a0f (b8k c.H0 pins) ns σ' fun σ'=>∃y,p (k+1) y∧a0p ⟨[],I (k+1) y⟩ σ'),fun i σ'=>kX c s i ⟨e,σ'.heap⟩,fun σ'=>c.R ⟨e,σ'.heap⟩⟩ (.seq a b) [] ⟨b7g ps xs e,I k x⟩) →
  a.straight=true→(∀x,p xss.length x→kN c s ⟨e,I xss.length x⟩)→go c (.rngF q ps a b) s ⟨e,h⟩
def f9i:a0r where
 grpC:=grpC
 kN:=kN
 kX:=kX
 go:=go
 ops:=ops
 aft:=aft
 lok:=lok
 b5v:=b5v
 goC:=goC
 opsD:=opsD
 aftD:=aftD
 lokD:=lokD
 insG:=insG
 opsDG:=opsDG
 go_regI:=go_regI
 kN_it_nil:=kN_it_nil
 kN_it_op:=kN_it_op
 kN_it_nt:=kN_it_nt
 kN_it_grp:=kN_it_grp
 kX_it:=kX_it
 go_seq:=go_seq
 go_block:=go_block
 go_skip:=go_skip
 go_ret:=go_ret
 go_exit:=go_exit
 go_reg:=go_reg
 go_cond:=go_cond
 go_note:=go_note
 go_hnote:=go_hnote
 kN_nil:=kN_nil
 kN_sq:=kN_sq
 kN_bl:=kN_bl
 kX_nil:=kX_nil
 kX_sq:=kX_sq
 kX_bl':=kX_bl'
 ops_nil:=ops_nil
 ops_guard:=ops_guard
 ops_ins:=ops_ins
 aft_eq:=aft_eq
 aft_some:=aft_some
 aft_none:=aft_none
 aft_up:=aft_up
 aft_upn:=aft_upn
 lok_eq:=lok_eq
 lok_comp:=lok_comp
 lok_compU:=lok_compU
 opsG_tup:=opsG_tup
 opsG_lit_tt:=opsG_lit_tt
 opsG_lit_ff:=opsG_lit_ff
 opsG_lit_tf:=opsG_lit_tf
 opsG_lit_ft:=opsG_lit_ft
 b1o:=b1o
 b1p:=b1p
 opsG_any:=opsG_any
 goC_t:=goC_t
 goC_f:=goC_f
 goC_ct:=goC_ct
 goC_cf:=goC_cf
 c0t:=c0t
 goC_any:=goC_any
 go_regD:=go_regD
 opsD_nil:=opsD_nil
 opsD_ins:=opsD_ins
 opsD_guard:=opsD_guard
 insG_eq:=insG_eq
 aftD_eq:=aftD_eq
 aftD_comp:=aftD_comp
 aftD_up:=aftD_up
 lokD_eq:=lokD_eq
 lokD_comp:=lokD_comp
 lokD_compU:=lokD_compU
 opsDG_tup:=opsDG_tup
 opsDG_tt:=opsDG_tt
 opsDG_ff:=opsDG_ff
 opsDG_tf:=opsDG_tf
 opsDG_ft:=opsDG_ft
 a9a:=a9a
 a9b:=a9b
 opsDG_bool:=opsDG_bool
 go_loop:=go_loop
 go_cut:=go_cut
 go_grp:=go_grp
 go_rngF:=go_rngF
theorem c1i {P:Program} {f:Nat} {fn:Func} {code:Code} {mc:MC} {args:List V} {H:Heap} {Q:V→Heap→Prop} (ns:List a5r) (rids:List Nat) (rs:List RS) (hf:P.funcs[f]?=some fn) (hb:fn.body=some code) (hc:callable P f=true)
  (hnh:mc.nh=true) (hok:mc.ok P fn.ntmps code=true) (hrs:a7b P rs fn.results.toList=true) (hn:Nat.ble args.length fn.ntmps=true) (hg:St.good ⟨a4s 0 args,H⟩=true)
  (h:∀M:a0r,factsSt ⟨a4s 0 args,H⟩→M.go ⟨P,H,a2c H ns rids rs Q,fun _ _=>False,a2c H ns rids rs Q⟩ mc [] ⟨a4s 0 args,H⟩):l9 P f args H Q :=
 c3c ns rids rs hf hb hc hnh hok hrs hn hg fun hfa=>h f9i hfa
theorem c5d {P:Program} {f:Nat} {fn:Func} {code:Code} {mc:MC} {args:List V} {H:Heap} {Q:V→Heap→Prop} (rids:List Nat) (rs:List RS) (hf:P.funcs[f]?=some fn) (hb:fn.body=some code) (hc:callable P f=true)
  (hnh:mc.nh=true) (hok:mc.ok P fn.ntmps code=true) (hrs:a7b P rs fn.results.toList=true) (hn:Nat.ble args.length fn.ntmps=true) (hg:St.good ⟨a4s 0 args,H⟩=true)
  (h:∀M:a0r,factsSt ⟨a4s 0 args,H⟩→M.go ⟨P,H,d37 rids rs Q,fun _ _=>False,d37 rids rs Q⟩ mc [] ⟨a4s 0 args,H⟩):l9 P f args H Q :=
 c3c [] rids rs hf hb hc hnh hok hrs hn hg fun hfa=>h f9i hfa
end Go.Ab
namespace Go.Ab
open Go.RowKit Go.Sort
variable {P:Program}
theorem c58 {b:Bool}:(V.bool b).cells=[.bool b]:=rfl
theorem c8h {k:IntKind} {n:Int}:(V.int k n).cells=[.int k n]:=rfl
theorem c8e {s:List UInt8}:(V.str s).cells=[.str s]:=rfl
theorem c4z:V.nils.cells=[.nils]:=rfl
theorem c50:V.nilp.cells=[.nilp]:=rfl
theorem c52:V.nilm.cells=[.nilm]:=rfl
theorem c55:V.nilf.cells=[.nilf]:=rfl
theorem c54:V.nili.cells=[.nili]:=rfl
theorem c8i {cs:List V}:(V.agg cs).cells=cs:=rfl
theorem d2x {xs:List V}:(V.sl xs).cells=[.sl xs]:=rfl
theorem c8f {a b:Nat}:(V.ptr a b).cells=[.ptr a b]:=rfl
theorem c56 {x:V} {b:Nat}:(V.eptr x b).cells=[.eptr x b]:=rfl
theorem c8g {a b c d:Nat}:(V.osl a b c d).cells=[.osl a b c d]:=rfl
theorem c4x {a b c d:Nat}:(V.optr a b c d).cells=[.optr a b c d]:=rfl
theorem c4y {a:Nat}:(V.omap a).cells=[.omap a]:=rfl
theorem c57 {a:Nat}:(V.bptr a).cells=[.bptr a]:=rfl
theorem d2y {f:Fn} {c:List V}:(V.fn f c).cells=[.fn f c]:=rfl
theorem c1g {c:UInt8}:(a0a c).cells=[a0a c]:=rfl
theorem c4p {p:V→Prop} {a:V}:(∀y∈[a],p y)↔p a:=by simp
theorem c0u {p:V→Prop}:(∀y∈([]:List V),p y)↔True:=by simp
theorem d32 {l:List UInt8}:(∀y∈l.map a0a,y.cells.length=1)↔True:=by simp [a0a,V.cells]
theorem d9d {k:IntKind} {l:List Int}:(∀y∈l.map (fun n=>V.int k n),y.cells.length=1)↔True:=by simp [V.cells]
theorem e2i {vals:Array Value} (h:vals.size=1):vals=#[vals.getD 0 undef]:=by
 refine Array.ext (by simpa using h) fun i h1 h2=>?_
 simp at h2;subst h2
 simp [zC,h]
theorem f0k {vals:Array Value} (h:vals.size=2):vals=#[vals.getD 0 undef,vals.getD 1 undef]:=by
 refine Array.ext (by simpa using h) fun i h1 h2=>?_
 simp at h2
 match i,h2 with
 | 0,_=>simp [zC,h]
 | 1,_=>simp [zC,h]
theorem a2a {f:Nat} {args:List V} {H:Heap} (e:Eff) (hc:callable P f=true)
  (h:∀g w (vals:Array Value),a2o P g w H→vals.size=args.length→(∀(i:Nat) (x:V),args[i]?=some x→VR g w (vals.getD i undef) x) →
   Calls P f vals w fun en w'=>∃v g',en=.returned v∧q9 g H w e g' w'∧a0l H g g' ⟨[],H⟩ e∧VR g' w' v e.val):l9 P f args H (fun r H'=>r=e.val∧H'=e.heap H):=by
 refine ⟨hc,fun g w vals hH hl hv=>(h g w vals hH hl hv).mono ?_⟩
 rintro en w' ⟨v,g',rfl,hs,hf,hvr⟩
 have h1:=a2o.step (σ:=⟨[],H⟩) hH hs hf
 have h0:Frm ⟨w,g,H,0,[],[],H,g,w⟩ g w H:=⟨rfl,rfl,rfl,w8 _,fun _ _ _=>rfl,fun id o ho hn=>⟨.inr ⟨id,o,ho,hn,.inl rfl⟩,fun _ h=>by cases h⟩,fun _ h=>h.elim id id,fun _ h=>⟨.inl h,fun _ h=>by cases h⟩,fun id _ _=>Gh.agree.refl g id,
  fun id o b ho hn hs=>⟨.inr ⟨id,o,ho,hn,.inr hs⟩,fun _ h=>by cases h⟩,fun _ _ _=>rfl⟩
 refine ⟨v,e.val,e.heap H,g',rfl,⟨rfl,rfl⟩,h1.2.1,hvr,Frm.step (c:=⟨w,g,H,0,[],[],H,g,w⟩) (σ:=⟨[],H⟩) (ds:=[]) hH ⟨rfl,fun _ _ h=>(by cases h),fun _ _=>rfl⟩ h0 hs hf,fun id hid=>hs.agree id fun o ho=>?_⟩
 have : ∀{l:List (Nat×a03)} {G:Heap},(id,o)∈l→find id (puts l G)≠none:=by
  intro l
  induction l with
  | nil=>intro G h;cases h
  | cons p r ih =>
   intro G hm
   obtain ⟨n,q⟩:=p
   rw [puts]
   by_cases hr:∃o',(id,o')∈r
   ·obtain ⟨o',ho'⟩:=hr
    have aux:∀{l:List (Nat×a03)} {G:Heap} {o':a03},(id,o')∈l→find id (puts l G)≠none:=by
     intro l
     induction l with
     | nil=>intro G o' h;cases h
     | cons p r ih =>
      intro G o' hm
      obtain ⟨n,q⟩:=p
      rw [puts]
      by_cases hr:∃o',(id,o')∈r
      ·obtain ⟨o'',h''⟩:=hr;exact ih h''
      ·rw [a1m fun o h=>hr ⟨o,h⟩,a0i]
       rcases wO.1 hm with hm|hm
       ·cases hm;simp
       ·exact absurd ⟨_,hm⟩ hr
    exact aux ho'
   ·rw [a1m fun o h=>hr ⟨o,h⟩,a0i]
    rcases wO.1 hm with hm|hm
    ·cases hm;simp
    ·exact absurd ⟨_,hm⟩ hr
 exact this ho hid
theorem q9.grown {g:Gh} {H:Heap} {w w':World} (x:V) (dr:List Nat) (hlt:∀b,g.S b→b<w.heap.size) (h1:w'.os=w.os) (h2:w'.tape=w.tape) (h3:w'.output=w.output) (h4:w.heap.size≤w'.heap.size)
  (h5:∀b,b<w.heap.size→(∀id o,id∈dr→find id H=some o→¬g.nil id→g.ρ id≠b)→w'.heap[b]?=w.heap[b]?):q9 g H w ⟨x,dr,[]⟩ g w' :=
 ⟨h1,h2,h3,h4,fun b hb hn=>h5 b hb fun id o hd hf hnn=>(hn id o (by simpa [Eff.ids] using hd) hf hnn).1,fun _ h=>h,fun b hb=>.inl hb,fun b hb=>z7 (hlt b hb) h4,
  fun id _=>Gh.agree.refl _ _,fun _ _ h=>by simp at h,fun _ _ h=>by simp at h,fun _ _ _ _ h=>by simp at h,fun _ _ h=>by simp at h,fun _ _ _=>rfl,a2z.no (by simp)⟩
theorem a0l.none {H0:Heap} {g:Gh} {σ:St} (x:V) (dr:List Nat):a0l H0 g g σ ⟨x,dr,[]⟩:=fun _ _ h=>by simp at h
theorem b6a {g:Gh} {w:World} (l:List UInt8) (h:l.length≤9223372036854775807):VR g w (.string ⟨l.toArray⟩) (.str l):=by
 have:=Rd.str (S:=g.S) (w:=w) ⟨l.toArray⟩ (by
  have:(ByteArray.mk l.toArray).size=l.length:=by simp [ByteArray.size]
  rw [this];unfold maxLen;omega)
 exact .rd (by simpa using this)
theorem b2b {f:Nat} {args:List V} {r:V} (hc:callable P f=true)
  (h:∀g w (vals:Array Value),a2o P g w []→vals.size=args.length→(∀(i:Nat) (x:V),args[i]?=some x→VR g w (vals.getD i undef) x) →
   Calls P f vals w fun en w'=>∃v,en=.returned v∧(∀g w',VR g w' v r)∧∃k os,w'=grow (w.drewN k) os):l9 P f args [] (fun r' H'=>r'=r∧H'=[]):=by
 refine a2a ⟨r,[],[]⟩ hc fun g w vals hH hl hv=>(h g w vals hH hl hv).mono ?_
 rintro en w' ⟨v,rfl,hvr,k,os,rfl⟩
 refine ⟨v,g,rfl,q9.grown r [] hH.lt rfl rfl rfl ?_ ?_,a0l.none _ _,hvr g _⟩
 ·simp [World.drewN]
 ·intro b hb _
  exact heap_grow_old (w.drewN k) os hb
theorem liesAt_bytes' {e:TypeId} (hc:P.cellsOf e=1) (count off n:Nat) (hn:off+n≤count):liesAt P P.depth e count off e n=true:=by
 have hd:P.depth=(2*(P.types.size+Made.depth)+1)+1:=rfl
 rw [hd]
 simp only [liesAt,wI]
 left
 rw [hd]
 simp only [rowAt,hc,sameLayout]
 simp [Nat.mod_one,hn]
theorem a97 (w:World) (pt it ty e:TypeId) (hp:P.underlying pt=some (.pointer e)) (hc:P.cellsOf e=1) (g o cells:Nat) (hsh:w.shape? g=some (e,cells)) (l:List UInt8) (h0:l≠[]) (hn:o+l.length≤cells)
  (h63:l.length≤9223372036854775807) (hcell:∀j x,l[j]?=some x→w.cell? ((⟨g,o,none⟩:Addr).add j)=some (.int .u8 x.toNat)) :
  (Builtin.unsafeString_ #[pt,it] ty #[.pointer (some ⟨g,o,none⟩),.int .i64 l.length]).run P w=.ok (.string ⟨l.toArray⟩) (w.freeze ⟨g,o,none⟩ l.length):=by
 have hl:l.length≠0:=by simpa using h0
 have hlb:=Lib.run_loadBytes (P:=P) w l ⟨g,o,none⟩ .empty hcell
 have hlies:=liesAt_bytes' (P:=P) hc (cells / P.cellsOf e) o l.length (by rw [hc];simpa using hn)
 have h63':¬(9223372036854775807:Int)<(l.length:Int):=by omega
 have hneg:¬(l.length:Int)<0:=by omega
 have hmax:IntKind.i64.max=9223372036854775807:=rfl
 obtain ⟨x1,x2,x3,body⟩:∃x1 x2 x3,Builtin.unsafeString_ #[pt,it] ty #[.pointer (some ⟨g,o,none⟩),.int .i64 l.length]=(do
   let n ←asInt (.int .i64 l.length)
   if n<0 then x1
   if n > IntKind.i64.max then x2
   if n=0 then pure (.string .empty)
   else if ←variablesAt ⟨g,o,none⟩ (←elemOf pt) n.toNat then do
    let s ←loadBytes ⟨g,o,none⟩ .empty n.toNat
    freeze ⟨g,o,none⟩ n.toNat
    pure (.string s)
   else x3):=⟨_,_,_,rfl⟩
 rw [body]
 simp [asInt,asIntOf,hmax,h63',hneg,hl,variablesAt,hsh,elemOf,run_underlying hp,hlies,hlb]
end Go.Ab
namespace Go.Ab
open Go.RowKit
theorem getD_lt {α:Type} {l:List α} {i:Nat} {d:α} (h:i<l.length):l[i]?=some (l.getD i d):=by simp [h]
theorem c1s {α:Type} [Inhabited α] {k:Nat} {f:α→V} {l:List α} {kk:IntKind} {n:Int} {K L:V→Prop} :
  c9k k (.sl (l.map f)) (.int kk n) K L=((0≤n∧n<l.length)∧(f (l.getD n.toNat default)).cells.length=k∧L (.eptr (f (l.getD n.toNat default)) 0)):=by
 refine propext ⟨fun ⟨h0,y,h1,h2,h3⟩=>?_,fun ⟨⟨h0,h1⟩,h2,h3⟩=>⟨h0,_,?_,h2,h3⟩⟩
 ·rw [xK] at h1
  cases hl:l[n.toNat]? with
  | none=>rw [hl] at h1;cases h1
  | some a =>
   rw [hl] at h1;cases h1
   have hlt:=(zG.1 hl).1
   have e:l.getD n.toNat default=a:=by simp [List.getD,hl]
   rw [e];exact ⟨⟨h0,by omega⟩,h2,h3⟩
 ·rw [xK,getD_lt (by omega)];rfl
theorem d0h {id k k' lo m:Nat} {kk:IntKind} {n:Int} {K L:V→Prop}:c9k k (.osl id k' lo m) (.int kk n) K L=bif Nat.beq k k' then (0≤n∧n<m)∧K (.optr id k (lo+n.toNat) 0) else False:=rfl
theorem d4d {α:Type} [Inhabited α] {f:α→V} {l:List α} {i:Nat} {p:V→Prop}:(∃x,(l.map f)[i]?=some x∧p x)=(i<l.length∧p (f (l.getD i default))):=by
 refine propext ⟨fun ⟨x,h1,h2⟩=>?_,fun ⟨h1,h2⟩=>⟨_,?_,h2⟩⟩
 ·rw [xK] at h1
  cases hl:l[i]? with
  | none=>rw [hl] at h1;cases h1
  | some a =>
   rw [hl] at h1;cases h1
   have e:l.getD i default=a:=by simp [List.getD,hl]
   rw [e];exact ⟨(zG.1 hl).1,h2⟩
 ·rw [xK,getD_lt h1];rfl
theorem c8l {a b:UInt8} (h:a0a a=a0a b):a=b:=by
 simp only [a0a,V.int.injEq,true_and] at h
 exact UInt8.toNat_inj.1 (by omega)
theorem bytes_inj {a b:List UInt8} (h:a.map a0a=b.map a0a):a=b:=List.map_inj_right (fun _ _ h=>c8l h)|>.1 h
theorem b7t {s:List UInt8} {p:List UInt8→Prop}:(∃t:List UInt8,s.map a0a=t.map a0a∧p t)=p s :=
 propext ⟨fun ⟨t,h1,h2⟩=>by rw [bytes_inj h1];exact h2,fun h=>⟨s,rfl,h⟩⟩
theorem b9g {s:List UInt8} {lo n:Nat} {p:List UInt8→Prop}:(∃t:List UInt8,((s.map a0a).drop lo).take n=t.map a0a∧t.length=n∧p t)=(((s.drop lo).take n).length=n∧p ((s.drop lo).take n)):=by
 rw [←List.map_drop,←List.map_take]
 exact propext ⟨fun ⟨t,h1,h2,h3⟩=>by rw [bytes_inj h1];exact ⟨h2,h3⟩,fun ⟨h1,h2⟩=>⟨_,rfl,h1,h2⟩⟩
section
variable {M:a0r} {c:Cfg} {d:Option Nat} {r:List MOp} {s:List Fr} {e e0:List (Nat×V)} {h h0:Heap} {anc:List (List Nat)} {u t m:List Nat} {log:List Ent}
theorem a0r.iad_map {α:Type} [Inhabited α] {k:Nat} {f:α→V} {l:List α} {kk:IntKind} {n:Int} {K:V→Prop} :
  c9k k (.sl (l.map f)) (.int kk n) K (a0g (M.lok c d r s e h))=((0≤n∧n<l.length)∧(f (l.getD n.toNat default)).cells.length=k∧a0g (M.aft c d r s e h) (.eptr (f (l.getD n.toNat default)) 0)):=by
 rw [c1s,M.lok_comp]
theorem a0r.iad_mapD {α:Type} [Inhabited α] {k:Nat} {f:α→V} {l:List α} {kk:IntKind} {n:Int} {K:V→Prop} :
  c9k k (.sl (l.map f)) (.int kk n) K (a0g (M.lokD c anc e0 h0 d u t m r log s e h))=((0≤n∧n<l.length)∧(f (l.getD n.toNat default)).cells.length=k∧a0g (M.aftD c anc e0 h0 d u t m r log s e h) (.eptr (f (l.getD n.toNat default)) 0)):=by
 rw [c1s,M.lokD_comp]
theorem a0r.ex_part {α:Type} [Inhabited α] {f:α→V} {l:List α} {i off:Nat} {n:Option Nat} :
  (∃x,(l.map f)[i]?=some x∧part n off x.cells (a0g (M.lok c d r s e h)))=(i<l.length∧part n off (f (l.getD i default)).cells (a0g (M.aft c d r s e h))):=by
 rw [d4d]
 have:a0g (M.lok c d r s e h)=a0g (M.aft c d r s e h):=funext fun v=>M.lok_comp
 rw [this]
theorem a0r.ex_partD {α:Type} [Inhabited α] {f:α→V} {l:List α} {i off:Nat} {n:Option Nat} :
  (∃x,(l.map f)[i]?=some x∧part n off x.cells (a0g (M.lokD c anc e0 h0 d u t m r log s e h)))=(i<l.length∧part n off (f (l.getD i default)).cells (a0g (M.aftD c anc e0 h0 d u t m r log s e h))):=by
 rw [d4d]
 have:a0g (M.lokD c anc e0 h0 d u t m r log s e h)=a0g (M.aftD c anc e0 h0 d u t m r log s e h):=funext fun v=>M.lokD_comp
 rw [this]
theorem a0r.b2s_sl {b:List UInt8}:(∃t:List UInt8,b.map a0a=t.map a0a∧a0g (M.lok c d r s e h) (.str t))=a0g (M.aft c d r s e h) (.str b):=by rw [b7t,M.lok_comp]
theorem a0r.b2s_slD {b:List UInt8}:(∃t':List UInt8,b.map a0a=t'.map a0a∧a0g (M.lokD c anc e0 h0 d u t m r log s e h) (.str t'))=a0g (M.aftD c anc e0 h0 d u t m r log s e h) (.str b):=by rw [b7t,M.lokD_comp]
theorem a0r.b2s_osl {b:List UInt8} {lo n:Nat}:(∃t:List UInt8,((b.map a0a).drop lo).take n=t.map a0a∧t.length=n∧a0g (M.lok c d r s e h) (.str t))=(((b.drop lo).take n).length=n∧a0g (M.aft c d r s e h) (.str ((b.drop lo).take n))):=by rw [b9g,M.lok_comp]
theorem a0r.b2s_oslD {b:List UInt8} {lo n:Nat}:(∃t':List UInt8,((b.map a0a).drop lo).take n=t'.map a0a∧t'.length=n∧a0g (M.lokD c anc e0 h0 d u t m r log s e h) (.str t'))=(((b.drop lo).take n).length=n∧a0g (M.aftD c anc e0 h0 d u t m r log s e h) (.str ((b.drop lo).take n))):=by rw [b9g,M.lokD_comp]
end
theorem g2d {a b:Nat}:Nat.blt a b=Nat.ble (a+1) b:=rfl
theorem d03 {α:Type} {f:α→V} {l:List α} {n:Nat}:(l.map f).take n=(l.take n).map f:=List.map_take.symm
theorem d2o {α:Type} {f:α→V} {l:List α} {n:Nat}:(l.map f).drop n=(l.drop n).map f:=List.map_drop.symm
theorem f5p {α:Type} {l:List α}:l.drop 0=l:=rfl
theorem f6a {P:Program} {n0:Nat} {vs:List V} {ob:Nat→Option a03} {K L:Eff→Prop} {m:b9t} {xs:List Opd}:o6 P (.mp m xs) n0 vs ob K L=a0v m n0 vs ob K L:=propext vF
section
variable {P:Program} {n0:Nat} {vs:List V} {ob:Nat→Option a03} {K L:Eff→Prop} {xs:List Opd}
theorem f5u {kd:KD}:a0j P (.mp (.mk kd) xs) n0 vs ob K L=a0v (.mk kd) n0 vs ob K L:=propext vF
theorem e7u {kd:KD} {ok:Bool} {z:V}:a0j P (.mp (.lku kd ok z) xs) n0 vs ob K L=a0v (.lku kd ok z) n0 vs ob K L:=propext vF
theorem f5q {kd:KD}:a0j P (.mp (.up kd) xs) n0 vs ob K L=a0v (.up kd) n0 vs ob K L:=propext vF
theorem e7e {kd:KD}:a0j P (.mp (.ups kd) xs) n0 vs ob K L=a0v (.ups kd) n0 vs ob K L:=propext vF
theorem e7d:a0j P (.mp .uss xs) n0 vs ob K L=a0v .uss n0 vs ob K L:=propext vF
theorem e7s:a0j P (.mp .lss xs) n0 vs ob K L=a0v .lss n0 vs ob K L:=propext vF
theorem e7o:a0j P (.mp .mx3 xs) n0 vs ob K L=a0v .mx3 n0 vs ob K L:=propext vF
theorem e81 {ng:Bool}:a0j P (.mp (.fnz ng) xs) n0 vs ob K L=a0v (.fnz ng) n0 vs ob K L:=propext vF
theorem e7w {ng:Bool}:a0j P (.mp (.ifz ng) xs) n0 vs ob K L=a0v (.ifz ng) n0 vs ob K L:=propext vF
theorem e8a {f:Nat}:a0j P (.mp (.bnd f) xs) n0 vs ob K L=a0v (.bnd f) n0 vs ob K L:=propext vF
theorem e7k:a0j P (.mp .r2s xs) n0 vs ob K L=a0v .r2s n0 vs ob K L:=propext vF
theorem e8g {k b:Nat}:a0j P (.mp (.apc k b) xs) n0 vs ob K L=a0v (.apc k b) n0 vs ob K L:=propext vF
theorem e7p:a0j P (.mp .mvo xs) n0 vs ob K L=a0v .mvo n0 vs ob K L:=propext vF
theorem e7q:a0j P (.mp .mvi xs) n0 vs ob K L=a0v .mvi n0 vs ob K L:=propext vF
theorem e8e {k b:Nat}:a0j P (.mp (.apr k b) xs) n0 vs ob K L=a0v (.apr k b) n0 vs ob K L:=propext vF
theorem e88 {k:Nat}:a0j P (.mp (.cpy k) xs) n0 vs ob K L=a0v (.cpy k) n0 vs ob K L:=propext vF
theorem e7f {i:Nat}:a0j P (.mp (.tab i) xs) n0 vs ob K L=a0v (.tab i) n0 vs ob K L:=propext vF
theorem f2w:a0v (.tab 1) n0 [] ob K L=K (evl (.agg [.int .i64 1,.int .i64 100,.int .i64 1000,.int .i64 10000])):=propext vF
theorem f2v:a0v (.tab 2) n0 [] ob K L=K (evl (.agg [.int .i64 40,.int .i64 16,.int .i64 4,.int .i64 1])):=propext vF
theorem e87 {kd:KD}:a0j P (.mp (.del kd) xs) n0 vs ob K L=a0v (.del kd) n0 vs ob K L:=propext vF
theorem e04:a0j P (.mp .len xs) n0 vs ob K L=a0v .len n0 vs ob K L:=propext vF
theorem e7j:a0j P (.mp .rng xs) n0 vs ob K L=a0v .rng n0 vs ob K L:=propext vF
theorem e86:a0j P (.mp .ent xs) n0 vs ob K L=a0v .ent n0 vs ob K L:=propext vF
end
theorem d22 {n:Nat} {kd:KD} {es:List (V×V)}:(V.smap kd es).has n=false:=by simp only [V.has]
theorem c4w {kd:KD} {es:List (V×V)}:(V.smap kd es).cells=[.smap kd es]:=rfl
theorem c6k {k z:V} {ok:Bool}:a5z ok z none=bif ok then .tup [z,.bool false] else z:=rfl
theorem c6j {k z v:V} {ok:Bool}:a5z ok z (some v)=bif ok then .tup [v,.bool true] else v:=rfl
theorem d0y {k:V}:b5w k []=none:=rfl
theorem a0r.opsDG_any {M:a0r} {c:Cfg} {anc:List (List Nat)} {e0 e:List (Nat×V)} {h0 h:Heap} {i:y7} {d:Option Nat} {n:Nat} {w b:Bool} {r:List MOp} {log:List Ent} {s:List Fr}:M.opsDG c anc e0 h0 i d n w r log s e h (.bool b) =
  ((b=w→M.insG c anc e0 h0 i d [n] r log s (put n (.bool w) e) h)∧(b=(!w)→M.opsD c anc e0 h0 r (⟨d,none,[n],[],[]⟩::log) s ⟨a7h d (put n (.bool (!w)) e),h⟩)):=by
 rw [M.opsDG_bool];rfl
attribute [go_sem high] f2w f2v
attribute [go_sem] f6a e7e e7d e7s a9s e7o e81 e2h e7w e8a e7k e88 e8g e7p e7q e8e e7f f5u e7u f5q e87 e04 e7j e86 a0v b1s evl eup KD.is d22 c4w c6k c6j d0y V.shm V.shmL c60 c3n a03.shm
attribute [go_sem] a0r.go_regI a0r.kN_it_nil a0r.kN_it_op a0r.kN_it_nt a0r.kX_it a0r.go_seq a0r.go_block a0r.go_skip a0r.go_ret a0r.go_exit a0r.go_reg a0r.go_regD
attribute [go_sem low] a0r.goC_any a0r.opsG_any a0r.opsDG_any
attribute [go_sem high] a0r.goC_t a0r.goC_f a0r.goC_ct a0r.goC_cf a0r.opsG_lit_tt a0r.opsG_lit_ff a0r.opsG_lit_tf a0r.opsG_lit_ft a0r.opsDG_tt a0r.opsDG_ff a0r.opsDG_tf a0r.opsDG_ft a0r.opsG_tup a0r.opsDG_tup
attribute [go_sem] a0r.kN_it_grp e8x e0q e7t e08 c3q e9c e9d e0s e8h e8i e09 e1z e2a a2m
attribute [go_sem] a0r.go_cond a0r.kN_nil a0r.kN_sq a0r.kN_bl a0r.kX_nil a0r.kX_sq a0r.kX_bl' a0r.ops_nil a0r.ops_guard a0r.ops_ins a0r.opsD_nil a0r.opsD_ins
attribute [go_sem] a0r.opsD_guard a0r.insG_eq c3l f5s e03 d2u e89 d2t c86 f5v f5r e7n
attribute [go_sem] e8b e07 e8c e85 e7l e7m e80 e7y e7i e8d e06 e05
attribute [go_sem] e7g e7h e83 e82 e7z e7x e84 e7v e8f f5t a0r.aftD_eq a0r.aftD_comp
attribute [go_sem] a0r.aftD_up slotsOf y7.touch vid a0r.aft_eq a0r.aft_some
attribute [go_sem] a0r.aft_none a0r.aft_up a0r.aft_upn
attribute [go_sem] f5z e0m f6c f5y e8v e97 e0p e98 e95 e8t e8u e91
attribute [go_sem] e8z e9a e0o e8q e8r e93 e92 e90 e8y e94 at_len f6b
attribute [go_sem] d36 e96 c8r e8s e0n e9b e0r d35 d2g d9t c7x
attribute [go_sem] d2l d0r d68 d2s e02 d6f d9i d9j d23 d24 d2c d9o d9g
attribute [go_sem] e6x d2d d9k d9h e6w d25 d26 d27 d29 d28 d9n d2a
attribute [go_sem] d2e c7m c4u c1f d84 c6n a7v a0w a03.has y7.creates y7.opds a5a
attribute [go_sem] List.map List.append List.reverse List.reverseAux Opd.ev Option.getD Option.isSome Option.isNone c3o puts c84 a7h
attribute [go_sem] vE vC Bool.and_true Bool.true_and Bool.and_false Bool.false_and Bool.or_false wQ Bool.not_true wM d40 c08
attribute [go_sem] sLd sSt e1s c0c e1y d5u e1q e1r e1v e1u c65 d5a
attribute [go_sem] d3y e1x e1w d0h f5p wL e1t d5s sLen sMm d5w d5d
attribute [go_sem] c09 c1u a5c d3t kEq c5k part c58 c8h c8e
attribute [go_sem] c4z c50 c52 c55 c54 c8i d2x c8f c56 c8g c4x c4y c57
attribute [go_sem] d2y c1g c4p c0u d32 d9d tyJ
attribute [go_sem] sel V.within V.withinL b1i a03.within wU wY xN b07 b7o b08 b7p
attribute [go_sem] and_true true_and a0t wA xW wH g2e setCells xU wD List.take_succ_cons
attribute [go_sem] List.take_zero z5 List.all_cons List.all_nil V.one decide_true decide_false wE w8 V.nany V.nav a3f V.sealed
attribute [go_sem] V.isB V.sc a0r.go_note a0e c9n c9l c5i V.ren V.renL a03.ren a4z V.sealOK b4f
attribute [go_sem] V.shut b1k a4y a03.sealOK a03.shut xR List.map_append wP w4 xB V.sealL V.sealOKs
attribute [go_sem] ints tape V.unnil V.unnilL
attribute [go_sem] b0g List.zip List.zipWith List.set_cons_succ List.set_cons_zero g2d e8w e7r c9j uvT tyF
attribute [go_sem] d03 d2o List.forall_mem_map implies_true Int.toNat_zero
attribute [go_sem ↓] a0r.iad_map a0r.iad_mapD a0r.ex_part a0r.ex_partD a0r.b2s_sl a0r.b2s_slD a0r.b2s_osl a0r.b2s_oslD
def swN (a b n:Nat):Nat:=bif Nat.beq n a then b else bif Nat.beq n b then a else n
theorem a0d (a b n:Nat):swN a b (swN a b n)=n:=by
 unfold swN
 by_cases h1:n=a
 ·subst h1
  by_cases h2:n=b
  ·subst h2;simp
  ·have:Nat.beq b n=false:=by
    cases h:Nat.beq b n
    ·rfl
    ·exact absurd (zR h).symm h2
   simp [this]
 ·have e1:Nat.beq n a=false:=by
   cases h:Nat.beq n a
   ·rfl
   ·exact absurd (zR h) h1
  by_cases h2:n=b
  ·subst h2;simp [e1]
  ·have e2:Nat.beq n b=false:=by
    cases h:Nat.beq n b
    ·rfl
    ·exact absurd (zR h) h2
   simp [e1,e2]
theorem c07 {a b m n:Nat} (h:swN a b m=swN a b n):m=n:=by
 have:=congrArg (swN a b) h
 rwa [a0d,a0d] at this
mutual
def V.sw (a b:Nat):V→V
 | .ptr id off=>.ptr (swN a b id) off
 | .osl id k lo n=>.osl (swN a b id) k lo n
 | .optr id k i off=>.optr (swN a b id) k i off
 | .omap id=>.omap (swN a b id)
 | .bptr id=>.bptr (swN a b id)
 | .nsl z k xs=>.nsl (swN a b z) k xs
 | .nsmap z k kd es=>.nsmap (swN a b z) k kd es
 | .at_ id x=>.at_ (swN a b id) x
 | .agg cs=>.agg (V.swL a b cs)
 | .tup cs=>.tup (V.swL a b cs)
 | .fn f cs=>.fn f (V.swL a b cs)
 | x=>x
def V.swL (a b:Nat):List V→List V
 | []=>[]
 | x::r=>x.sw a b::V.swL a b r
end
theorem a6j (a b:Nat):∀cs:List V,V.swL a b cs=cs.map (V.sw a b)
 | []=>rfl
 | x::r=>by simp [V.swL,a6j a b r]
mutual
theorem V.sw_sw (a b:Nat):∀x:V,(x.sw a b).sw a b=x
 | .ptr _ _=>by simp [V.sw,a0d]
 | .osl _ _ _ _=>by simp [V.sw,a0d]
 | .optr _ _ _ _=>by simp [V.sw,a0d]
 | .omap _=>by simp [V.sw,a0d]
 | .bptr _=>by simp [V.sw,a0d]
 | .nsl _ _ _=>by simp [V.sw,a0d]
 | .nsmap _ _ _ _=>by simp [V.sw,a0d]
 | .at_ _ _=>by simp [V.sw,a0d]
 | .agg cs=>by simp [V.sw,V.swL_swL a b cs]
 | .tup cs=>by simp [V.sw,V.swL_swL a b cs]
 | .fn _ cs=>by simp [V.sw,V.swL_swL a b cs]
 | .bool _|.int _ _|.str _|.nils|.nilp|.nilm|.nilf|.nili|.ifc _|.sl _|.smap _ _|.eptr _ _|.adr _ _|.any=>by simp [V.sw]
theorem V.swL_swL (a b:Nat):∀cs:List V,V.swL a b (V.swL a b cs)=cs
 | []=>rfl
 | x::r=>by simp [V.swL,V.sw_sw a b x,V.swL_swL a b r]
end
def a03.sw (a b:Nat):a03→a03
 | .cells cs t=>.cells (V.swL a b cs) t
 | .nmap z k kd es=>.nmap (swN a b z) k kd es
 | o=>o
def swH (a b:Nat):Heap→Heap
 | []=>[]
 | (n,o)::r=>(swN a b n,o.sw a b)::swH a b r
theorem a03.sw_sw (a b:Nat) (o:a03):(o.sw a b).sw a b=o:=by
 cases o with
 | cells cs t=>simp [a03.sw,V.swL_swL]
 | arr k xs t=>rfl
 | map kd es=>rfl
 | iter rem cur=>rfl
 | mark=>rfl
 | rws k xss=>rfl
 | nmap z k kd es=>simp [a03.sw,a0d]
theorem b7a (a b:Nat):∀H:Heap,swH a b (swH a b H)=H
 | []=>rfl
 | (n,o)::r=>by simp [swH,a0d,a03.sw_sw,b7a a b r]
theorem b45 (a b n:Nat):∀H:Heap,find (swN a b n) (swH a b H)=(find n H).map (a03.sw a b)
 | []=>rfl
 | (m,o)::r=>by
  simp only [swH,find]
  have ih:=b45 a b n r
  cases h:Nat.beq n m with
  | true =>
   have e:=zR h;subst e
   simp
  | false =>
   have:Nat.beq (swN a b n) (swN a b m)=false:=by
    cases h':Nat.beq (swN a b n) (swN a b m) with
    | false=>rfl
    | true =>
     have e:=c07 (zR h');subst e
     simp at h
   simp only [this,vC];exact ih
theorem a2f {a b n:Nat} {H:Heap} {o:a03} (h:find n (swH a b H)=some o):∃o',find (swN a b n) H=some o'∧o=o'.sw a b:=by
 have:=b45 a b (swN a b n) H
 rw [a0d,h] at this
 cases hf:find (swN a b n) H with
 | none=>rw [hf] at this;cases this
 | some o'=>rw [hf] at this;simp at this;exact ⟨o',rfl,this⟩
def Gh.sw (g:Gh) (a b:Nat):Gh:=⟨g.S,fun i=>g.ρ (swN a b i),fun i=>g.base (swN a b i),fun i=>g.cap (swN a b i),fun i=>g.nil (swN a b i),g.sub⟩
theorem Gh.sw_sw (g:Gh) (a b:Nat):(g.sw a b).sw a b=g:=by
 unfold Gh.sw
 simp only [a0d]
variable {P:Program} {g:Gh} {w:World} {a b:Nat}
theorem Rd.sw_same {S:Nat→Prop} {v:Value} {x:V} (h:Rd S w v x):x.sw a b=x:=by
 induction h with
 | agg vs cs hl hr ih =>
  simp only [V.sw,a6j,V.agg.injEq]
  refine xM fun i=>?_
  rw [xK]
  cases hc:cs[i]? with
  | none=>rfl
  | some c=>simp [ih i c hc]
 | _=>rfl
theorem VR.sw {v:Value} {x:V} (h:VR g w v x):VR (g.sw a b) w v (x.sw a b):=by
 induction h with
 | rd h=>rw [h.sw_same];exact .rd h
 | any v=>exact .any v
 | ptr id off =>
  have:=VR.ptr (g:=g.sw a b) (w:=w) (swN a b id) off
  simp only [Gh.sw,a0d] at this
  exact this
 | eptr bl o off cur e fz x hS hg hb hr=>exact .eptr bl o off cur e fz x hS hg hb hr
 | oslnil id k lo h=>exact .oslnil _ k lo (by simp only [Gh.sw,a0d];exact h)
 | osl id k lo len o c h ho hc hl hm =>
  have:=VR.osl (g:=g.sw a b) (w:=w) (swN a b id) k lo len o c (by simp only [Gh.sw,a0d];exact h) (by simp only [Gh.sw,a0d];exact ho) (by simp only [Gh.sw,a0d];exact hc) hl hm
  simp only [Gh.sw,a0d] at this
  exact this
 | optr id k i off =>
  have:=VR.optr (g:=g.sw a b) (w:=w) (swN a b id) k i off
  simp only [Gh.sw,a0d] at this
  exact this
 | omap id =>
  have:=VR.omap (g:=g.sw a b) (w:=w) (swN a b id)
  simp only [Gh.sw,a0d] at this
  exact this
 | bnil id=>exact .bnil _
 | bself id =>
  have:=VR.bself (g:=g.sw a b) (w:=w) (swN a b id)
  simp only [Gh.sw,a0d] at this
  exact this
 | at_ id q v h=>exact VR.at_ (g:=g.sw a b) (w:=w) (swN a b id) q v (by simp only [Gh.sw,a0d];exact h)
 | nsl z k xs v h =>
  have:=VR.nsl (g:=g.sw a b) (w:=w) (swN a b z) k xs v (by simp only [Gh.sw,a0d];exact h)
  exact this
 | nsmap bl z k kd ents clock es hr hS hg hn =>
  exact VR.nsmap (g:=g.sw a b) (w:=w) bl (swN a b z) k kd ents clock es hr hS hg (by simp only [Gh.sw,a0d];exact hn)
 | agg vs cs hl hr ih =>
  simp only [V.sw,a6j]
  refine .agg vs _ (by simpa using hl) fun i c hc=>?_
  rw [xK] at hc
  cases hx:cs[i]? with
  | none=>rw [hx] at hc;cases hc
  | some y=>rw [hx] at hc;cases hc;exact ih i y hx
 | tup vs cs hl hr ih =>
  simp only [V.sw,a6j]
  refine .tup vs _ (by simpa using hl) fun i c hc=>?_
  rw [xK] at hc
  cases hx:cs[i]? with
  | none=>rw [hx] at hc;cases hc
  | some y=>rw [hx] at hc;cases hc;exact ih i y hx
 | fn f vs cs hl hr ih =>
  simp only [V.sw,a6j]
  refine .fn f vs _ (by simpa using hl) fun i c hc=>?_
  rw [xK] at hc
  cases hx:cs[i]? with
  | none=>rw [hx] at hc;cases hc
  | some y=>rw [hx] at hc;cases hc;exact ih i y hx
 | bnd f vs cs hl hr ih =>
  simp only [V.sw,a6j]
  refine .bnd f vs _ (by simpa using hl) fun i c hc=>?_
  rw [xK] at hc
  cases hx:cs[i]? with
  | none=>rw [hx] at hc;cases hc
  | some y=>rw [hx] at hc;cases hc;exact ih i y hx
theorem OR.sw {id:Nat} {o:a03} (h:OR g w id o):OR (g.sw a b) w (swN a b id) (o.sw a b):=by
 cases o with
 | cells cs t =>
  obtain ⟨hn,cur,e,fz,h1,h2,h3,h4⟩:=h
  refine ⟨by simp only [Gh.sw,a0d];exact hn,cur,e,fz,by simp only [Gh.sw,a0d];exact h1,by rw [a6j];simpa using h2,h3,fun i c hc=>?_⟩
  rw [a6j,xK] at hc
  cases hx:cs[i]? with
  | none=>rw [hx] at hc;cases hc
  | some y=>rw [hx] at hc;cases hc;exact (h4 i y hx).sw
 | arr k xs t =>
  simp only [OR,Gh.sw,a03.sw,a0d];exact h
 | map kd es =>
  simp only [OR,Gh.sw,a03.sw,a0d];exact h
 | iter rem cur =>
  simp only [OR,Gh.sw,a03.sw,a0d];exact h
 | rws k xss =>
  simp only [OR,Gh.sw,a03.sw,a0d];exact h
 | mark =>
  simp only [OR,Gh.sw,a03.sw,a0d];exact h
 | nmap z k kd es =>
  simp only [OR,Gh.sw,a03.sw,a0d];exact h
theorem a2o.sw {H:Heap} (h:a2o P g w H):a2o P (g.sw a b) w (swH a b H):=by
 have cv:Cnv g (g.sw a b) H (swH a b H):=by
  refine ⟨fun id o ho hn=>?_,fun i j o o' hi hj hni hnj he=>?_,rfl⟩
  ·obtain ⟨o1,h1,rfl⟩:=a2f ho
   exact ⟨_,o1,h1,hn,rfl,by cases o1<;>first|exact .inl rfl|exact .inr ⟨rfl,rfl⟩⟩
  ·obtain ⟨o1,h1,_⟩:=a2f hi
   obtain ⟨o2,h2,_⟩:=a2f hj
   exact c07 (h.inj _ _ _ _ h1 h2 hni hnj he)
 refine ⟨fun id o ho=>?_,fun i j o o' hi hj hni hnj he=>?_,fun id o ho hn=>?_,h.lt,h.tabs,cv.sub1 h fun b hb=>.inl hb,cv.sub2 h⟩
 ·obtain ⟨o',h1,rfl⟩:=a2f ho
  have:=(h.obj _ _ h1).sw (a:=a) (b:=b)
  rwa [a0d] at this
 ·obtain ⟨o1,h1,_⟩:=a2f hi
  obtain ⟨o2,h2,_⟩:=a2f hj
  exact c07 (h.inj _ _ _ _ h1 h2 hni hnj he)
 ·obtain ⟨o1,h1,_⟩:=a2f ho
  exact h.sep _ _ h1 hn
theorem Gh.agree.sw {g g':Gh} {id:Nat} (h:g.agree g' (swN a b id)):(g.sw a b).agree (g'.sw a b) id:=h
theorem g1v {id b':Nat} {o:a03} (h:g.ρ id=b'∨a4i g id o b'):(g.sw a b).ρ (swN a b id)=b'∨a4i (g.sw a b) (swN a b id) (o.sw a b) b':=by
 rcases h with h|⟨k,xss,j,c,rfl,hj,e⟩
 ·simp only [Gh.sw,a0d];exact .inl h
 ·exact .inr ⟨k,xss,j,c,rfl,hj,by simp only [Gh.sw,a0d];exact e⟩
theorem Frm.sw {w0:World} {g0:Gh} {H0 H:Heap} (h:Frm ⟨w0,g0,H0,0,[],[],H0,g0,w0⟩ g w H):Frm ⟨w0,g0.sw a b,swH a b H0,0,[],[],swH a b H0,g0.sw a b,w0⟩ (g.sw a b) w (swH a b H):=by
 have hM:∀bl,Ctx.M ⟨w0,g0,H0,0,[],[],H0,g0,w0⟩ bl→Ctx.M ⟨w0,g0.sw a b,swH a b H0,0,[],[],swH a b H0,g0.sw a b,w0⟩ bl:=by
  rintro bl ⟨id,o,h1,h2,h3⟩
  refine ⟨swN a b id,o.sw a b,?_,?_,?_⟩
  ·show find _ (swH a b H0)=_;rw [b45,h1];rfl
  ·simp only [Gh.sw,a0d];exact h2
  ·exact g1v h3
 refine ⟨h.os,h.tape,h.output,h.size,fun bl hb hn=>h.old bl hb fun hm=>hn (hM bl hm),fun id o ho hn=>?_,h.sup,fun bl hb=>?_,fun id o ho=>?_,fun id o bl ho hn hs=>?_,fun bl hb hn=>h.sb bl hb fun hm=>hn (hM bl hm)⟩
 rotate_right
 ·obtain ⟨o1,h1,rfl⟩:=a2f ho
  obtain ⟨k,xss,j,q,e0,hj,e⟩:=hs
  have hs1:a4i g (swN a b id) o1 bl:=⟨k,xss,j,q,by cases o1<;>simp_all [a03.sw],hj,e⟩
  rcases (h.own2 _ _ _ h1 hn hs1).1 with h2|h2
  ·exact ⟨.inl h2,fun _ h=>by cases h⟩
  ·exact ⟨.inr (hM _ h2),fun _ h=>by cases h⟩
 ·obtain ⟨o1,h1,_⟩:=a2f ho
  rcases (h.own _ _ h1 hn).1 with h2|h2
  ·exact ⟨.inl h2,fun _ h=>by cases h⟩
  ·exact ⟨.inr (hM _ h2),fun _ h=>by cases h⟩
 ·rcases (h.sub bl hb).1 with h1|h1|h1
  ·exact ⟨.inl h1,fun _ h=>by cases h⟩
  ·exact ⟨.inr (.inl h1),fun _ h=>by cases h⟩
  ·exact ⟨.inr (.inr (hM bl h1)),fun _ h=>by cases h⟩
 ·obtain ⟨o1,h1,_⟩:=a2f ho
  exact (h.par _ _ h1).sw
theorem d3c {f:Nat} {args:List V} {H:Heap} {Q:V→Heap→Prop} (a b:Nat) (h:l9 P f args H Q):l9 P f (V.swL a b args) (swH a b H) (fun r H'=>Q (r.sw a b) (swH a b H')):=by
 refine ⟨h.1,fun g w vals hH hl hv=>?_⟩
 have h1:=hH.sw (a:=a) (b:=b)
 rw [b7a] at h1
 refine (h.2 (g.sw a b) w vals h1 (by rw [hl,a6j];simp) fun i x hx=>?_).mono ?_
 ·have:=(hv i (x.sw a b) (by rw [a6j,xK,hx];rfl)).sw (a:=a) (b:=b)
  rwa [V.sw_sw] at this
 ·rintro en w' ⟨v,r,H',g',rfl,hq,hH',hv',hf,ha⟩
  refine ⟨v,r.sw a b,swH a b H',g'.sw a b,rfl,by simp only [V.sw_sw,b7a];exact hq,hH'.sw,hv'.sw,?_,fun id hid=>?_⟩
  ·have:=hf.sw (a:=a) (b:=b)
   rwa [Gh.sw_sw] at this
  ·have h2:find (swN a b id) H'=none:=by
    have:=b45 a b (swN a b id) H'
    rw [a0d,hid] at this
    cases hf:find (swN a b id) H' with
    | none=>rfl
    | some o=>rw [hf] at this;cases this
   have:=(ha _ h2).sw (a:=a) (b:=b) (id:=id)
   rwa [Gh.sw_sw] at this
theorem p9 {f:Nat} {args:List V} {H:Heap} {r0:V} {H1:Heap} (a b:Nat) (h:l9 P f args H (fun r H'=>r=r0∧H'=H1)):l9 P f (V.swL a b args) (swH a b H) (fun r H'=>r=r0.sw a b∧H'=swH a b H1):=by
 refine (d3c a b h).mono fun r H' ⟨h1,h2⟩=>?_
 exact ⟨by rw [←h1,V.sw_sw],by rw [←h2,b7a]⟩
end Go.Ab