/- The abstract layer, part 10: notes, which change the description and not the world. -/
import Derived.Test.YtnaeedamiaoipaaGreatDoorAbReg
set_option linter.all false
namespace Go.Ab
open Go.RowKit
inductive Note where
 | gc (keep:List Nat)
 | acc (s id k:Nat)
 | shut (id:Nat)
 | shq (id:Nat)
 | fact (s:Nat)
 | ren (a b:Nat)
 | renq (a b:Nat)
 | nl (s:Nat)
 | accC (id off id2 k:Nat) (ty:Option TypeId)
 | ownC (id off id2 k:Nat) (ty:Option TypeId)
 | fz (s:Nat)
 | trim (s:Nat)
 | fzc (s:Nat)
 | bld (id:Nat)
 | nm (id z k:Nat)
 | adq (s q:Nat)
 | toA (s q:Nat)
 | ofA (s q:Nat)
 | accA (s off id k:Nat)
def V.isB (id:Nat):V→Bool
 | .nilp=>true
 | .ptr j off=>Nat.beq j id&&Nat.beq off 0
 | .bptr j=>Nat.beq j id
 | _=>false
mutual
def V.fact:V→Prop
 | .int k n=>rng k n
 | .str s=>s.length≤9223372036854775807
 | .sl xs=>xs.length≤9223372036854775807∧factA xs
 | .osl _ _ _ n=>n≤9223372036854775807
 | .agg cs=>V.factL cs
 | .tup cs=>V.factL cs
 | .eptr x _=>x.fact
 | _=>True
def V.factL:List V→Prop
 | []=>True
 | x::r=>x.fact∧V.factL r
def factA:List V→Prop
 | []=>True
 | x::r=>x.fact∧factA r
end
theorem factA_iff:∀{xs:List V},factA xs↔∀x∈xs,x.fact
 | []=>by simp [factA]
 | x::r=>by simp [factA,factA_iff (xs:=r)]
theorem factL_iff:∀{xs:List V},V.factL xs↔∀x∈xs,x.fact
 | []=>by simp [V.factL]
 | x::r=>by simp [V.factL,factL_iff (xs:=r)]
theorem maxLen_le {n:Nat} (h:n≤maxLen):n≤9223372036854775807:=Nat.le_trans h (by unfold maxLen;decide)
theorem fact_cells {x:V} (h:∀(j:Nat) (c:V),x.cells[j]?=some c→c.fact):x.fact:=by
 cases x with
 | agg cs =>
  simp only [V.fact]
  refine factL_iff.2 fun c hc=>?_
  obtain ⟨j,hj⟩:=List.mem_iff_getElem?.1 hc
  exact h j c hj
 | _=>exact h 0 _ rfl
theorem Rd.fact {S:Nat→Prop} {w:World} {v:Value} {x:V} (h:Rd S w v x):x.fact:=by
 induction h with
 | int k n h=>exact rng_iff.1 h
 | str s h =>
  simp only [V.fact]
  have:s.data.toList.length=s.size:=by rw [Array.length_toList];rfl
  rw [this];exact maxLen_le h
 | agg vs cs hl hr ih =>
  simp only [V.fact]
  refine factL_iff.2 fun c hc=>?_
  obtain ⟨j,hj⟩:=List.mem_iff_getElem?.1 hc
  exact ih j c hj
 | nilsl=>simp [V.fact,factA]
 | slz a cap=>simp [V.fact,factA]
 | sl g o len cap k cur e fz xs hS hg hl hm hc hb hk hr ih =>
  simp only [V.fact]
  refine ⟨by rw [hl];exact maxLen_le hm,factA_iff.2 fun x hx=>?_⟩
  obtain ⟨i,hi⟩:=List.mem_iff_getElem?.1 hx
  exact fact_cells fun j c hj=>ih i j x c hi hj
 | _=>simp [V.fact]
theorem VR.fact {g:Gh} {w:World} {v:Value} {x:V} (h:VR g w v x):x.fact:=by
 induction h with
 | rd h=>exact h.fact
 | eptr b o off cur e fz x hS hg hb hr=>simp only [V.fact];exact fact_cells fun j c hc=>(hr j c hc).fact
 | oslnil=>simp [V.fact]
 | osl id k lo len o c h ho hc hl hm=>simp only [V.fact];exact maxLen_le (Nat.le_trans hl hm)
 | agg vs cs hl hr ih =>
  simp only [V.fact]
  refine factL_iff.2 fun c hc=>?_
  obtain ⟨j,hj⟩:=List.mem_iff_getElem?.1 hc
  exact ih j c hj
 | tup vs cs hl hr ih =>
  simp only [V.fact]
  refine factL_iff.2 fun c hc=>?_
  obtain ⟨j,hj⟩:=List.mem_iff_getElem?.1 hc
  exact ih j c hj
 | _=>simp [V.fact]
def factsE:List (Nat×V)→Prop
 | []=>True
 | (_,x)::r=>x.fact∧factsE r
def Obj'.fact:Obj'→Prop
 | .arr _ xs _=>xs.length≤9223372036854775807∧factA xs
 | .cells cs _=>V.factL cs
 | .map _ es=>∀e∈es,e.1.fact∧e.2.fact
 | .iter es _=>∀e∈es,e.1.fact∧e.2.fact
 | .mark=>True
 | .nmap _ _ _ es=>∀e∈es,e.1.fact∧e.2.fact
def factsH:Heap→Prop
 | []=>True
 | (_,x)::r=>x.fact∧factsH r
theorem OR.fact {g:Gh} {w:World} {id:Nat} {o:Obj'} (h:OR g w id o):o.fact:=by
 cases o with
 | cells cs ty =>
  obtain ⟨_,cur,e,fz,_,_,_,h4⟩:=h
  refine factL_iff.2 fun c hc=>?_
  obtain ⟨j,hj⟩:=List.mem_iff_getElem?.1 hc
  exact (h4 j c hj).fact
 | arr k xs ty =>
  rcases h with ⟨_,rfl⟩|⟨_,_,⟨cur,e,fz,_,_,_,h4⟩,h5,h6,_⟩
  ·simp [Obj'.fact,factA]
  ·refine ⟨maxLen_le (by omega),factA_iff.2 fun x hx=>?_⟩
   obtain ⟨i,hi⟩:=List.mem_iff_getElem?.1 hx
   exact fact_cells fun j c hj=>(h4 i j x c hi hj).fact
 | map kd es =>
  obtain ⟨_,ents,clock,_,he,_⟩:=h
  intro kv hm
  obtain ⟨i,hi⟩:=List.mem_iff_getElem?.1 hm
  have hlt:i<ents.toList.length:=by
   rw [he.len];exact (List.getElem?_eq_some_iff.1 hi).1
  obtain ⟨h5,h6⟩:=he.rd i ents.toList[i] kv (List.getElem?_eq_getElem hlt) hi
  exact ⟨h5.fact,h6.fact⟩
 | mark=>trivial
 | nmap z k kd es =>
  obtain ⟨_,ents,clock,_,he,_⟩:=h
  intro kv hm
  obtain ⟨i,hi⟩:=List.mem_iff_getElem?.1 hm
  have hlt:i<ents.toList.length:=by
   rw [he.len];exact (List.getElem?_eq_some_iff.1 hi).1
  obtain ⟨h5,h6⟩:=he.rd i ents.toList[i] kv (List.getElem?_eq_getElem hlt) hi
  exact ⟨h5.fact,h6.fact⟩
 | iter rem cur =>
  obtain ⟨_,h⟩:=h
  rcases h with ⟨x,y,z,_,rfl,_⟩|⟨m,clock,seen,ents,_,_,_,_,_,hl,hr,_⟩
  ·intro kv hm;cases hm
  ·intro kv hm
   obtain ⟨i,hi⟩:=List.mem_iff_getElem?.1 hm
   have hlt:i<(ents.toList.filter fun e=>!seen.contains e.born).length:=by
    rw [hl];exact (List.getElem?_eq_some_iff.1 hi).1
   obtain ⟨h5,h6⟩:=hr i _ kv (List.getElem?_eq_getElem hlt) hi
   exact ⟨h5.fact,h6.fact⟩
mutual
def V.ren (a b:Nat):V→V
 | .ptr id off=>.ptr (bif Nat.beq id a then b else id) off
 | .osl id k lo n=>.osl (bif Nat.beq id a then b else id) k lo n
 | .optr id k i off=>.optr (bif Nat.beq id a then b else id) k i off
 | .omap id=>.omap (bif Nat.beq id a then b else id)
 | .bptr id=>.bptr (bif Nat.beq id a then b else id)
 | .nsl z k xs=>.nsl (bif Nat.beq z a then b else z) k xs
 | .nsmap z k kd es=>.nsmap (bif Nat.beq z a then b else z) k kd es
 | .at_ id x=>.at_ (bif Nat.beq id a then b else id) x
 | .agg cs=>.agg (V.renL a b cs)
 | .tup cs=>.tup (V.renL a b cs)
 | .fn f cs=>.fn f (V.renL a b cs)
 | x=>x
def V.renL (a b:Nat):List V→List V
 | []=>[]
 | x::r=>x.ren a b::V.renL a b r
end
def renE (a b:Nat):List (Nat×V)→List (Nat×V)
 | []=>[]
 | (n,x)::r=>(n,x.ren a b)::renE a b r
def Obj'.ren (a b:Nat):Obj'→Obj'
 | .cells cs t=>.cells (V.renL a b cs) t
 | .nmap z k kd es=>.nmap (bif Nat.beq z a then b else z) k kd es
 | o=>o
def renH (a b:Nat):Heap→Heap
 | []=>[]
 | (n,o)::r=>(bif Nat.beq n a then b else n,o.ren a b)::renH a b r
mutual
def V.shut (n:Nat) (xs:List V):V→V
 | .osl id k lo len=>bif Nat.beq n id then .sl ((xs.drop lo).take len) else .osl id k lo len
 | .agg cs=>.agg (V.sealL n xs cs)
 | .tup cs=>.tup (V.sealL n xs cs)
 | .fn f cs=>.fn f (V.sealL n xs cs)
 | .ptr id off=>bif Nat.beq n id then .any else .ptr id off
 | .optr id k i off=>bif Nat.beq n id then .any else .optr id k i off
 | .omap id=>bif Nat.beq n id then .any else .omap id
 | .bptr id=>bif Nat.beq n id then .any else .bptr id
 | x=>x
def V.sealL (n:Nat) (xs:List V):List V→List V
 | []=>[]
 | x::r=>x.shut n xs::V.sealL n xs r
end
mutual
def V.sealOK (n k m:Nat):V→Prop
 | .osl id k' lo len=>bif Nat.beq n id then (bif Nat.beq k k' then lo+len≤m else False) else True
 | .agg cs=>V.sealOKs n k m cs
 | .tup cs=>V.sealOKs n k m cs
 | .fn _ cs=>V.sealOKs n k m cs
 | _=>True
def V.sealOKs (n k m:Nat):List V→Prop
 | []=>True
 | x::r=>x.sealOK n k m∧V.sealOKs n k m r
end
def sealE (n:Nat) (xs:List V):List (Nat×V)→List (Nat×V)
 | []=>[]
 | (m,x)::r=>(m,x.shut n xs)::sealE n xs r
def sealEOK (n k m:Nat):List (Nat×V)→Prop
 | []=>True
 | (_,x)::r=>x.sealOK n k m∧sealEOK n k m r
def Obj'.shut (n:Nat) (xs:List V):Obj'→Obj'
 | .cells cs t=>.cells (V.sealL n xs cs) t
 | o=>o
def Obj'.sealOK (n k m:Nat):Obj'→Prop
 | .cells cs _=>V.sealOKs n k m cs
 | _=>True
def sealH (n:Nat) (xs:List V):Heap→Heap
 | []=>[]
 | (m,o)::r=>bif Nat.beq n m then sealH n xs r else (m,o.shut n xs)::sealH n xs r
def sealHOK (n k m:Nat):Heap→Prop
 | []=>True
 | (_,x)::r=>x.sealOK n k m∧sealHOK n k m r
mutual
def V.shm (n:Nat) (y:V):V→V
 | .omap id=>bif Nat.beq n id then y else .omap id
 | .agg cs=>.agg (V.shmL n y cs)
 | .tup cs=>.tup (V.shmL n y cs)
 | .fn f cs=>.fn f (V.shmL n y cs)
 | x=>x
def V.shmL (n:Nat) (y:V):List V→List V
 | []=>[]
 | x::r=>V.shm n y x::V.shmL n y r
end
def shmE (n:Nat) (y:V):List (Nat×V)→List (Nat×V)
 | []=>[]
 | (m,x)::r=>(m,V.shm n y x)::shmE n y r
def Obj'.shm (n:Nat) (y:V):Obj'→Obj'
 | .cells cs t=>.cells (V.shmL n y cs) t
 | o=>o
def shmH (n:Nat) (y:V):Heap→Heap
 | []=>[]
 | (m,o)::r=>bif Nat.beq n m then shmH n y r else (m,o.shm n y)::shmH n y r
def filt (keep:List Nat):List (Nat×V)→List (Nat×V)
 | []=>[]
 | (n,x)::r=>bif mem n keep then (n,x)::filt keep r else filt keep r
def inHeap (n:Nat):Heap→Bool
 | []=>false
 | (m,_)::r=>Nat.beq n m||inHeap n r
mutual
def V.unnil:V→V
 | .nils=>.sl []
 | .agg cs=>.agg (V.unnilL cs)
 | x=>x
def V.unnilL:List V→List V
 | []=>[]
 | x::r=>x.unnil::V.unnilL r
end
mutual
def V.oids:V→List Nat
 | .osl id _ _ _=>[id]
 | .omap id=>[id]
 | .agg cs=>V.oidsL cs
 | .tup cs=>V.oidsL cs
 | _=>[]
def V.oidsL:List V→List Nat
 | []=>[]
 | x::r=>x.oids++V.oidsL r
end
def shq1 (id:Nat) (σ:St) (K:St→Prop):Prop :=
 match find id σ.heap with
 | some (.arr k xs _)=>sealEOK id k xs.length σ.env∧sealHOK id k xs.length σ.heap∧K ⟨sealE id xs σ.env,sealH id xs σ.heap⟩
 | some (.map kd es)=>K ⟨shmE id (.smap kd es) σ.env,shmH id (.smap kd es) σ.heap⟩
 | some (.nmap z k kd es)=>K ⟨shmE id (.nsmap z k kd es) σ.env,shmH id (.nsmap z k kd es) σ.heap⟩
 | none=>K σ
 | _=>False
def shqs:List Nat→St→(St→Prop)→Prop
 | [],σ,K=>K σ
 | id::r,σ,K=>shq1 id σ fun σ'=>shqs r σ' K
mutual
def V.tr (n lo len:Nat):V→V
 | .osl id k l m=>bif Nat.beq id n then (bif Nat.beq l lo&&Nat.beq m len then .osl id k 0 m else .any) else .osl id k l m
 | .ptr id off=>bif Nat.beq id n then .any else .ptr id off
 | .optr id k i off=>bif Nat.beq id n then .any else .optr id k i off
 | .omap id=>bif Nat.beq id n then .any else .omap id
 | .bptr id=>bif Nat.beq id n then .any else .bptr id
 | .nsl z k xs=>bif Nat.beq z n then .any else .nsl z k xs
 | .nsmap z k kd es=>bif Nat.beq z n then .any else .nsmap z k kd es
 | .agg cs=>.agg (V.trL n lo len cs)
 | .tup cs=>.tup (V.trL n lo len cs)
 | .fn f cs=>.fn f (V.trL n lo len cs)
 | x=>x
def V.trL (n lo len:Nat):List V→List V
 | []=>[]
 | x::r=>x.tr n lo len::V.trL n lo len r
end
def trE (n lo len:Nat):List (Nat×V)→List (Nat×V)
 | []=>[]
 | (m,x)::r=>(m,x.tr n lo len)::trE n lo len r
def Obj'.tr (n lo len:Nat):Obj'→Obj'
 | .cells cs t=>.cells (V.trL n lo len cs) t
 | .nmap z k kd es=>bif Nat.beq z n then .map kd es else .nmap z k kd es
 | o=>o
def trH (n lo len:Nat):Heap→Heap
 | []=>[]
 | (m,o)::r=>(m,o.tr n lo len)::trH n lo len r
def V.isNils:V→Bool
 | .nils=>true
 | _=>false
def stepNote (H0:Heap) (n:Note) (σ:St) (K:St→Prop):Prop :=
 match n with
 | .adq s q=>match find s σ.env,find q σ.env with
  | some (.ptr id _),some _=>∀b,K ⟨put q (.at_ id b) σ.env,σ.heap⟩
  | _,_=>False
 | .toA s q=>match find s σ.env,find q σ.env with
  | some (.ptr id off),some (.at_ id' b)=>bif Nat.beq id id' then K ⟨put s (.adr b off) σ.env,σ.heap⟩ else False
  | _,_=>False
 | .ofA s q=>match find s σ.env,find q σ.env with
  | some (.adr b off),some (.at_ id b')=>b=b'∧K ⟨put s (.ptr id off) σ.env,σ.heap⟩
  | _,_=>False
 | .nm id z k=>match find id σ.heap with
  | some (.map kd es)=>match find z σ.heap with
   | some .mark=>bif es.all fun e=>e.2.isNils then K ⟨σ.env,put id (.nmap z k kd (es.map fun e=>(e.1,.sl []))) σ.heap⟩ else False
   | _=>False
  | _=>False
 | .ownC id off id2 k ty=>match find id σ.heap with
  | some (.cells cs t)=>match cs[off]? with
   | some .nils=>bif cleanL H0 σ [id2]&&!inHeap id2 σ.heap&&!Nat.beq id id2 then K ⟨σ.env,put id (.cells (cs.set off (.osl id2 k 0 0)) t) (put id2 (.arr k [] ty) σ.heap)⟩ else False
   | some (.osl j _ _ _)=>bif Nat.beq j id2 then K σ else bif cleanL H0 σ [id2]&&!inHeap id2 σ.heap&&inHeap j σ.heap then K ⟨renE j id2 σ.env,renH j id2 σ.heap⟩ else False
   | _=>False
  | _=>False
 | .fz s=>match find s σ.env with
  | some x=>shqs x.oids σ fun σ'=>(match find s σ'.env with|some y=>K ⟨put s y.unnil σ'.env,σ'.heap⟩|none=>False)
  | none=>K σ
 | .fzc s=>match find s σ.env with
  | some (.ptr id _)=>match find id σ.heap with
   | some (.cells cs _)=>shqs (V.oidsL cs) σ fun σ'=>(match find id σ'.heap with|some (.cells ds t)=>K ⟨σ'.env,put id (.cells (V.unnilL ds) t) σ'.heap⟩|_=>False)
   | _=>False
  | _=>False
 | .bld id=>match find id σ.heap with
  | some (.cells (x::cs) t)=>bif x.isB id then K ⟨σ.env,put id (.cells (.bptr id::cs) t) σ.heap⟩ else False
  | _=>False
 | .trim s=>match find s σ.env with
  | some (.osl id k lo n)=>match find id σ.heap,find id H0 with
   | some (.arr k' xs t),none=>bif Nat.beq k k' then K ⟨trE id lo n σ.env,put id (.arr k ((xs.drop lo).take n) t) (trH id lo n σ.heap)⟩ else False
   | _,_=>False
  | _=>K σ
 | .gc keep=>K ⟨filt keep σ.env,σ.heap⟩
 | .fact s=>(get s σ.env).fact→K σ
 | .accC id off id2 k ty=>match find id σ.heap with
  | some (.cells cs t)=>match cs[off]? with
   | some .nils=>bif cleanL H0 σ [id2]&&!inHeap id2 σ.heap&&!Nat.beq id id2 then K ⟨σ.env,put id (.cells (cs.set off (.osl id2 k 0 0)) t) (put id2 (.arr k [] ty) σ.heap)⟩ else False
   | _=>False
  | _=>False
 | .nl s=>(match find s σ.env with|some x=>K ⟨put s x.unnil σ.env,σ.heap⟩|none=>False)
 | .ren j id=>bif cleanL H0 σ [id]&&!inHeap id σ.heap&&!Nat.beq j id then K ⟨renE j id σ.env,renH j id σ.heap⟩ else False
 | .renq j id=>bif inHeap j σ.heap then (bif cleanL H0 σ [id]&&!inHeap id σ.heap&&!Nat.beq j id then K ⟨renE j id σ.env,renH j id σ.heap⟩ else False) else K σ
 | .shq id=>match find id σ.heap with
  | some (.arr k xs _)=>sealEOK id k xs.length σ.env∧sealHOK id k xs.length σ.heap∧K ⟨sealE id xs σ.env,sealH id xs σ.heap⟩
  | some (.map kd es)=>K ⟨shmE id (.smap kd es) σ.env,shmH id (.smap kd es) σ.heap⟩
  | some (.nmap z k kd es)=>K ⟨shmE id (.nsmap z k kd es) σ.env,shmH id (.nsmap z k kd es) σ.heap⟩
  | none=>K σ
  | _=>False
 | .shut id=>match find id σ.heap with
  | some (.arr k xs _)=>sealEOK id k xs.length σ.env∧sealHOK id k xs.length σ.heap∧K ⟨sealE id xs σ.env,sealH id xs σ.heap⟩
  | some (.map kd es)=>K ⟨shmE id (.smap kd es) σ.env,shmH id (.smap kd es) σ.heap⟩
  | some (.nmap z k kd es)=>K ⟨shmE id (.nsmap z k kd es) σ.env,shmH id (.nsmap z k kd es) σ.heap⟩
  | _=>False
 | .accA s off id k=>match find s σ.env with
  | some (.agg cs)=>match cs[off]? with
   | some .nils=>bif cleanL H0 σ [id]&&!inHeap id σ.heap then K ⟨put s (.agg (cs.set off (.osl id k 0 0))) σ.env,put id (.arr k []) σ.heap⟩ else False
   | some (.osl j _ _ _)=>bif Nat.beq j id then K σ else bif cleanL H0 σ [id]&&!inHeap id σ.heap&&inHeap j σ.heap then K ⟨renE j id σ.env,renH j id σ.heap⟩ else False
   | _=>False
  | _=>False
 | .acc s id k=>match get s σ.env with
  | .nils=>bif cleanL H0 σ [id]&&!inHeap id σ.heap then K ⟨put s (.osl id k 0 0) σ.env,put id (.arr k []) σ.heap⟩ else False
  | .osl j _ _ _=>bif Nat.beq j id then K σ else bif cleanL H0 σ [id]&&!inHeap id σ.heap&&inHeap j σ.heap then K ⟨renE j id σ.env,renH j id σ.heap⟩ else False
  | _=>False
section
variable {P:Program} {c:Ctx} {g:Gh} {σ:St} {a:Act} {w:World}
theorem find_filt {keep:List Nat} {s:Nat} {x:V}:∀{env:List (Nat×V)},find s (filt keep env)=some x→find s env=some x
 | [],h=>by cases h
 | (m, y)::r,h=>by
  simp only [filt] at h
  cases hb:Nat.beq s m with
  | true =>
   have e:=Nat.eq_of_beq_eq_true hb;subst e
   cases hm:mem s keep with
   | true=>rw [hm] at h;simpa [find] using h
   | false =>
    rw [hm] at h
    simp only [cond_false] at h
    have no:∀{env:List (Nat×V)},find s (filt keep env)=none:=by
     intro env
     induction env with
     | nil=>rfl
     | cons p r ih =>
      obtain ⟨q,z⟩:=p
      simp only [filt]
      cases hq:mem q keep with
      | false=>simpa using ih
      | true =>
       simp only [cond_true,find]
       cases hs:Nat.beq s q with
       | true=>have e:=Nat.eq_of_beq_eq_true hs;subst e;rw [hm] at hq;cases hq
       | false=>simpa using ih
    rw [no] at h;cases h
  | false =>
   simp only [find,hb,cond_false]
   cases hm:mem m keep with
   | true=>rw [hm] at h;simp only [cond_true,find,hb,cond_false] at h;exact find_filt h
   | false=>rw [hm] at h;exact find_filt h
theorem renL_map (p q:Nat):∀cs:List V,V.renL p q cs=cs.map (V.ren p q)
 | []=>rfl
 | x::r=>by simp [V.renL,renL_map p q r]
theorem find_renE (p q s:Nat):∀env:List (Nat×V),find s (renE p q env)=(find s env).map (V.ren p q)
 | []=>rfl
 | (m,x)::r=>by
  simp only [renE,find]
  cases Nat.beq s m with
  | true=>rfl
  | false=>exact find_renE p q s r
theorem inHeap_find {n:Nat}:∀{H:Heap},inHeap n H=true↔∃o,find n H=some o
 | []=>by simp [inHeap,find]
 | (m,x)::r=>by
  simp only [inHeap,find]
  cases Nat.beq n m with
  | true=>simp
  | false=>simpa using inHeap_find
theorem find_renH {p q:Nat} (hpq:p≠q):∀{H:Heap},inHeap q H=false→∀n o,find n (renH p q H)=some o→(n=q∧∃o',find p H=some o'∧o=o'.ren p q)∨(n≠q∧n≠p∧∃o',find n H=some o'∧o=o'.ren p q)
 | [],_,n,o,h=>by cases h
 | (m,x)::r,hq,n,o,h=>by
  simp only [inHeap,Bool.or_eq_false_iff] at hq
  obtain ⟨hqm,hqr⟩:=hq
  have ih:=find_renH hpq hqr n o
  have hmq:m≠q:=fun e=>by rw [e,Nat.beq_refl] at hqm;cases hqm
  simp only [renH] at h
  by_cases hm:m=p
  ·subst hm
   simp only [Nat.beq_refl,cond_true,find] at h
   by_cases hn:n=q
   ·subst hn
    simp only [Nat.beq_refl,cond_true,Option.some.injEq] at h
    exact .inl ⟨rfl,x,by simp [find],h.symm⟩
   ·have hb:Nat.beq n q=false:=by
     cases hb:Nat.beq n q with
     | true=>exact absurd (Nat.eq_of_beq_eq_true hb) hn
     | false=>rfl
    simp only [hb,cond_false] at h
    rcases ih h with ⟨h1,_⟩|⟨h1,h2,o',h3,h4⟩
    ·exact absurd h1 hn
    ·have hb':Nat.beq n m=false:=by
      cases hb:Nat.beq n m with
      | true=>exact absurd (Nat.eq_of_beq_eq_true hb) h2
      | false=>rfl
     exact .inr ⟨h1,h2,o',by simp only [find,hb',cond_false];exact h3,h4⟩
  ·have hb:Nat.beq m p=false:=by
    cases hb:Nat.beq m p with
    | true=>exact absurd (Nat.eq_of_beq_eq_true hb) hm
    | false=>rfl
   simp only [hb,cond_false,find] at h
   by_cases hn:n=m
   ·subst hn
    simp only [Nat.beq_refl,cond_true,Option.some.injEq] at h
    exact .inr ⟨hmq,hm,x,by simp [find],h.symm⟩
   ·have hb':Nat.beq n m=false:=by
     cases hb:Nat.beq n m with
     | true=>exact absurd (Nat.eq_of_beq_eq_true hb) hn
     | false=>rfl
    simp only [hb',cond_false] at h
    rcases ih h with ⟨h1,o',h3,h4⟩|⟨h1,h2,o',h3,h4⟩
    ·refine .inl ⟨h1,o',?_,h4⟩
     have hb2:Nat.beq p m=false:=by
      cases hb:Nat.beq p m with
      | true=>exact absurd (Nat.eq_of_beq_eq_true hb).symm hm
      | false=>rfl
     simp only [find,hb2,cond_false];exact h3
    ·exact .inr ⟨h1,h2,o',by simp only [find,hb',cond_false];exact h3,h4⟩
def Gh.dup (g:Gh) (p q:Nat):Gh :=
 ⟨g.S,fun i=>if i=q then g.ρ p else g.ρ i,fun i=>if i=q then g.base p else g.base i,fun i=>if i=q then g.cap p else g.cap i,fun i=>if i=q then g.nil p else g.nil i⟩
theorem dup_agree {g:Gh} {p q i:Nat} (h:i≠q):g.agree (g.dup p q) i:=by simp [Gh.agree,Gh.dup,h]
theorem dup_all {g:Gh} {p q i:Nat} (h:i≠q):(g.dup p q).ρ (bif Nat.beq i p then q else i)=g.ρ i∧(g.dup p q).base (bif Nat.beq i p then q else i)=g.base i∧(g.dup p q).cap (bif Nat.beq i p then q else i)=g.cap i ∧
  ((g.dup p q).nil (bif Nat.beq i p then q else i)↔g.nil i):=by
 by_cases e:i=p
 ·subst e;simp [Gh.dup]
 ·have:Nat.beq i p=false:=by
   cases hb:Nat.beq i p with
   | true=>exact absurd (Nat.eq_of_beq_eq_true hb) e
   | false=>rfl
  simp [this,Gh.dup,h]
theorem VR.ren {p q:Nat} {v:Value} {x:V} (h:VR g w v x) (hq:x.has q=false):VR (g.dup p q) w v (x.ren p q):=by
 have hne:∀{i:Nat},Nat.beq q i=false→i≠q:=fun h e=>by rw [e,Nat.beq_refl] at h;cases h
 induction h with
 | @rd v x h =>
  have:x.ren p q=x:=by
   have flat:∀{y:V} {u:Value},Rd g.S w u y→y.ren p q=y:=by
    intro y u hy
    induction hy with
    | agg vs cs hl hr ih =>
     simp only [V.ren,renL_map,V.agg.injEq]
     refine List.ext_getElem? fun i=>?_
     rw [List.getElem?_map]
     cases hc:cs[i]? with
     | none=>rfl
     | some c=>simp [ih i c hc]
    | _=>rfl
   exact flat h
  rw [this];exact .rd h
 | any v=>exact .any v
 | ptr id off =>
  simp only [V.has] at hq
  have:=(dup_all (g:=g) (p:=p) (hne hq)).1
  simp only [V.ren];rw [←this];exact .ptr _ off
 | eptr b o off cur e fz x hS hg hb hr=>exact .eptr b o off cur e fz x hS hg hb hr
 | oslnil id k lo h =>
  simp only [V.has] at hq
  exact .oslnil _ k lo ((dup_all (hne hq)).2.2.2.2 h)
 | osl id k lo len o c h ho hc hl hm =>
  simp only [V.has] at hq
  obtain ⟨h1,h2,h3,h4⟩:=dup_all (g:=g) (p:=p) (hne hq)
  simp only [V.ren];rw [←h1]
  exact .osl _ k lo len o c (fun h'=>h (h4.1 h')) (by rw [h2];exact ho) (by rw [h3];exact hc) hl hm
 | optr id k i off =>
  simp only [V.has] at hq
  obtain ⟨h1,h2,h3,h4⟩:=dup_all (g:=g) (p:=p) (hne hq)
  simp only [V.ren];rw [←h1,←h2];exact .optr _ k i off
 | omap id =>
  simp only [V.has] at hq
  have:=(dup_all (g:=g) (p:=p) (hne hq)).1
  simp only [V.ren];rw [←this];exact .omap _
 | bnil id=>exact .bnil _
 | bself id =>
  simp only [V.has] at hq
  have:=(dup_all (g:=g) (p:=p) (hne hq)).1
  simp only [V.ren];rw [←this];exact .bself _
 | at_ id b v h =>
  simp only [V.has] at hq
  simp only [V.ren];exact .at_ _ b v ((dup_all (g:=g) (p:=p) (hne hq)).1.trans h)
 | nsl z k xs v h =>
  simp only [V.has] at hq
  have:=(dup_all (g:=g) (p:=p) (hne hq)).2.1
  simp only [V.ren];exact .nsl _ k xs v (by rw [this];exact h)
 | nsmap b z k kd ents clock es hr hS hg hn =>
  simp only [V.has] at hq
  have:=(dup_all (g:=g) (p:=p) (hne hq)).2.1
  simp only [V.ren];exact .nsmap b _ k kd ents clock es hr hS hg fun i ent kv h1 h2=>by rw [this];exact hn i ent kv h1 h2
 | agg vs cs hl hr ih =>
  simp only [V.ren,renL_map]
  refine .agg vs _ (by simpa using hl) fun i c hc=>?_
  rw [List.getElem?_map] at hc
  cases hx:cs[i]? with
  | none=>rw [hx] at hc;cases hc
  | some y=>rw [hx] at hc;cases hc;exact ih i y hx (V.hasL_mem (List.mem_of_getElem? hx) (by simpa [V.has] using hq))
 | tup vs cs hl hr ih =>
  simp only [V.ren,renL_map]
  refine .tup vs _ (by simpa using hl) fun i c hc=>?_
  rw [List.getElem?_map] at hc
  cases hx:cs[i]? with
  | none=>rw [hx] at hc;cases hc
  | some y=>rw [hx] at hc;cases hc;exact ih i y hx (V.hasL_mem (List.mem_of_getElem? hx) (by simpa [V.has] using hq))
 | fn f vs cs hl hr ih =>
  simp only [V.ren,renL_map]
  refine .fn f vs _ (by simpa using hl) fun i c hc=>?_
  rw [List.getElem?_map] at hc
  cases hx:cs[i]? with
  | none=>rw [hx] at hc;cases hc
  | some y=>rw [hx] at hc;cases hc;exact ih i y hx (V.hasL_mem (List.mem_of_getElem? hx) (by simpa [V.has] using hq))
 | bnd f vs cs hl hr ih =>
  simp only [V.ren,renL_map]
  refine .bnd f vs _ (by simpa using hl) fun i c hc=>?_
  rw [List.getElem?_map] at hc
  cases hx:cs[i]? with
  | none=>rw [hx] at hc;cases hc
  | some y=>rw [hx] at hc;cases hc;exact ih i y hx (V.hasL_mem (List.mem_of_getElem? hx) (by simpa [V.has] using hq))
theorem OR.ren {p q n:Nat} {o:Obj'} (h:OR g w n o) (hn:n≠q) (hq:o.has q=false):OR (g.dup p q) w (bif Nat.beq n p then q else n) (o.ren p q):=by
 obtain ⟨h1,h2,h3,h4⟩:=dup_all (g:=g) (p:=p) hn
 cases o with
 | cells cs ty =>
  obtain ⟨hnil,cur,e,fz,k1,k2,k3,k4⟩:=h
  refine ⟨fun h=>hnil (h4.1 h),cur,e,fz,by rw [h1];exact k1,by rw [renL_map];simpa using k2,k3,fun i c hc=>?_⟩
  rw [renL_map,List.getElem?_map] at hc
  cases hx:cs[i]? with
  | none=>rw [hx] at hc;cases hc
  | some y=>rw [hx] at hc;cases hc;exact (k4 i y hx).ren (V.hasL_mem (List.mem_of_getElem? hx) (by simpa [Obj'.has] using hq))
 | arr k xs ty =>
  rcases h with ⟨hnil,hx⟩|⟨hnil,ha⟩
  ·exact .inl ⟨h4.2 hnil,hx⟩
  ·refine .inr ⟨fun h=>hnil (h4.1 h),?_⟩
   rw [h1,h2,h3];exact ha
 | map kd es =>
  obtain ⟨hnil,ents,clock,k1,k2⟩:=h
  exact ⟨fun h=>hnil (h4.1 h),ents,clock,by rw [h1];exact k1,k2⟩
 | mark =>
  obtain ⟨k1,k2⟩:=h
  exact ⟨h4.2 k1,fun b hb=>k2 b (by rw [←h2];exact hb)⟩
 | nmap z k kd es =>
  obtain ⟨hnil,ents,clock,k1,k2,k3,k4,k5,k6⟩:=h
  have hz:z≠q:=fun e=>by simp [Obj'.has,e] at hq
  have:=(dup_all (g:=g) (p:=p) hz).2.1
  exact ⟨fun h=>hnil (h4.1 h),ents,clock,by rw [h1];exact k1,k2,k3,k4,fun i ent kv a1 a2=>by rw [this];exact k5 i ent kv a1 a2,fun b hb=>k6 b (by rw [←this];exact hb)⟩
 | iter rem cur =>
  obtain ⟨hnil,k1⟩:=h
  exact ⟨fun h=>hnil (h4.1 h),by rw [h1];exact k1⟩
theorem Rel.ren {p q:Nat} (h:Rel P c g σ a w) (hpq:p≠q) (hcl:Clean c σ q) (hin:inHeap q σ.heap=false):Rel P c (g.dup p q) ⟨renE p q σ.env,renH p q σ.heap⟩ a w:=by
 have hfind:∀n o,find n σ.heap=some o→n≠q:=fun n o hn e=>by
  have:=inHeap_find.2 ⟨o,hn⟩
  rw [e,hin] at this;cases this
 have ren_p:(bif Nat.beq p p then q else p)=q:=by simp
 have ren_n:∀{n},n≠p→(bif Nat.beq n p then q else n)=n:=fun {n} hn=>by
  have:Nat.beq n p=false:=by
   cases hb:Nat.beq n p with
   | true=>exact absurd (Nat.eq_of_beq_eq_true hb) hn
   | false=>rfl
  simp [this]
 have key:∀n o,find n (renH p q σ.heap)=some o→∃m o',find m σ.heap=some o'∧o=o'.ren p q∧n=(bif Nat.beq m p then q else m)∧m≠q:=fun n o hn=>by
  rcases find_renH hpq hin n o hn with ⟨h1,o',h2,h3⟩|⟨h1,h2,o',h3,h4⟩
  ·exact ⟨p,o',h2,h3,by rw [ren_p];exact h1,hfind _ _ h2⟩
  ·exact ⟨n,o',h3,h4,(ren_n h2).symm,h1⟩
 refine ⟨h.size,h.dfr,fun s x hx=>?_,⟨fun n o hn=>?_,fun i j o o' hi hj hni hnj he=>?_,fun n o hn hnil hS=>?_,h.hp.lt,h.hp.tabs⟩,⟨h.fr.os,h.fr.tape,h.fr.output,h.fr.size,h.fr.old,fun n o hn hnil=>?_,h.fr.sup,h.fr.sub,fun n o hn=>?_⟩⟩
 ·simp only [find_renE] at hx
  cases hy:find s σ.env with
  | none=>rw [hy] at hx;cases hx
  | some y =>
   rw [hy] at hx;cases hx
   obtain ⟨h1,h2⟩:=h.env s y hy
   exact ⟨h1,h2.ren (noEnv_find hcl.2.1 hy)⟩
 ·obtain ⟨m,o',h1,rfl,rfl,h4⟩:=key n o hn
  exact (h.hp.obj m o' h1).ren h4 (noHeap_find hcl.2.2 h1)
 ·obtain ⟨m,o1,h1,rfl,rfl,h4⟩:=key i o hi
  obtain ⟨m',o1',h1',rfl,rfl,h4'⟩:=key j o' hj
  obtain ⟨e1,_,_,e2⟩:=dup_all (g:=g) (p:=p) h4
  obtain ⟨e1',_,_,e2'⟩:=dup_all (g:=g) (p:=p) h4'
  rw [e1,e1'] at he
  have:=h.hp.inj m m' o1 o1' h1 h1' (fun h=>hni (e2.2 h)) (fun h=>hnj (e2'.2 h)) he
  rw [this]
 ·obtain ⟨m,o1,h1,rfl,rfl,h4⟩:=key n o hn
  obtain ⟨e1,_,_,e2⟩:=dup_all (g:=g) (p:=p) h4
  rw [e1] at hS
  exact h.hp.sep m o1 h1 (fun h=>hnil (e2.2 h)) hS
 ·obtain ⟨m,o1,h1,rfl,rfl,h4⟩:=key n o hn
  obtain ⟨e1,_,_,e2⟩:=dup_all (g:=g) (p:=p) h4
  rw [e1]
  exact h.fr.own m o1 h1 (fun h=>hnil (e2.2 h))
 ·refine (h.fr.par n o hn).trans (dup_agree fun e=>?_)
  rw [e,hcl.1] at hn;cases hn
theorem sealL_map (n:Nat) (xs:List V):∀cs:List V,V.sealL n xs cs=cs.map (V.shut n xs)
 | []=>rfl
 | x::r=>by simp [V.sealL,sealL_map n xs r]
theorem sealOKs_mem {n k m:Nat}:∀{cs:List V},V.sealOKs n k m cs→∀c∈cs,c.sealOK n k m
 | [],_,_,h=>by cases h
 | x::r,h,c,hc=>by
  simp only [V.sealOKs] at h
  rcases List.mem_cons.1 hc with rfl|hc
  ·exact h.1
  ·exact sealOKs_mem h.2 c hc
theorem find_sealE (n s:Nat) (xs:List V):∀env:List (Nat×V),find s (sealE n xs env)=(find s env).map (V.shut n xs)
 | []=>rfl
 | (m,x)::r=>by
  simp only [sealE,find]
  cases Nat.beq s m with
  | true=>rfl
  | false=>exact find_sealE n s xs r
theorem sealEOK_find {n k m s:Nat} {x:V}:∀{env:List (Nat×V)},sealEOK n k m env→find s env=some x→x.sealOK n k m
 | (q,y)::r,h,hf=>by
  simp only [sealEOK] at h
  simp only [find] at hf
  cases hb:Nat.beq s q with
  | true=>rw [hb] at hf;cases hf;exact h.1
  | false=>rw [hb] at hf;exact sealEOK_find h.2 hf
theorem sealHOK_find {n k m s:Nat} {x:Obj'}:∀{H:Heap},sealHOK n k m H→find s H=some x→x.sealOK n k m
 | (q,y)::r,h,hf=>by
  simp only [sealHOK] at h
  simp only [find] at hf
  cases hb:Nat.beq s q with
  | true=>rw [hb] at hf;cases hf;exact h.1
  | false=>rw [hb] at hf;exact sealHOK_find h.2 hf
theorem find_sealH {n s:Nat} {xs:List V} {o:Obj'}:∀{H:Heap},find s (sealH n xs H)=some o→s≠n∧∃o',find s H=some o'∧o=o'.shut n xs
 | (m,x)::r,h=>by
  simp only [sealH] at h
  cases hb:Nat.beq n m with
  | true =>
   rw [hb] at h
   obtain ⟨h1,o',h2,h3⟩:=find_sealH (H:=r) h
   have e:=Nat.eq_of_beq_eq_true hb;subst e
   have hb':Nat.beq s n=false:=by
    cases hb:Nat.beq s n with
    | true=>exact absurd (Nat.eq_of_beq_eq_true hb) h1
    | false=>rfl
   exact ⟨h1,o',by simp only [find,hb',cond_false];exact h2,h3⟩
  | false =>
   rw [hb] at h
   simp only [cond_false,find] at h
   cases hs:Nat.beq s m with
   | true =>
    rw [hs] at h;cases h
    have e:=Nat.eq_of_beq_eq_true hs;subst e
    refine ⟨fun e=>?_,x,by simp [find],rfl⟩
    rw [e,Nat.beq_refl] at hb;cases hb
   | false =>
    rw [hs] at h
    obtain ⟨h1,o',h2,h3⟩:=find_sealH (H:=r) h
    exact ⟨h1,o',by simp only [find,hs,cond_false];exact h2,h3⟩
def Gh.sealed (g:Gh) (n:Nat):Gh:={ g with S:=fun b=>g.S b∨(¬g.nil n∧b=g.ρ n) }
theorem sealed_agree (g:Gh) (n i:Nat):g.agree (g.sealed n) i:=⟨rfl,rfl,rfl,Iff.rfl⟩
theorem VR.shut {n k:Nat} {xs:List V} {ty:Option TypeId} {v:Value} {x:V} (ho:OR g w n (.arr k xs ty)) (h:VR g w v x) (hok:x.sealOK n k xs.length):VR (g.sealed n) w v (x.shut n xs):=by
 have hk:Keep g.S w w:=fun _ _=>rfl
 have hs:∀b,g.S b→(g.sealed n).S b:=fun _ h=>.inl h
 have up:∀{v:Value} {x:V},VR g w v x→VR (g.sealed n) w v x:=fun h=>h.mono hk hs fun id _=>sealed_agree g n id
 induction h with
 | @rd v x h =>
  have:x.shut n xs=x:=by
   have flat:∀{y:V} {u:Value},Rd g.S w u y→y.shut n xs=y:=by
    intro y u hy
    induction hy with
    | agg vs cs hl hr ih =>
     simp only [V.shut,sealL_map,V.agg.injEq]
     refine List.ext_getElem? fun i=>?_
     rw [List.getElem?_map]
     cases hc:cs[i]? with
     | none=>rfl
     | some c=>simp [ih i c hc]
    | _=>rfl
   exact flat h
  rw [this];exact .rd (h.mono hk hs)
 | any v=>exact .any v
 | ptr id off =>
  simp only [V.shut]
  cases Nat.beq n id with
  | true=>exact .any _
  | false=>exact up (.ptr id off)
 | eptr b o off cur e fz x hS hg hb hr=>exact up (.eptr b o off cur e fz x hS hg hb hr)
 | oslnil id k' lo h =>
  simp only [V.shut]
  cases hb:Nat.beq n id with
  | true =>
   have e:=Nat.eq_of_beq_eq_true hb;subst e
   simp only [cond_true,List.take_zero];exact .rd .nilsl
  | false=>exact up (.oslnil id k' lo h)
 | osl id k' lo len o c h hoo hc hl hm =>
  simp only [V.shut]
  cases hb:Nat.beq n id with
  | false=>exact up (.osl id k' lo len o c h hoo hc hl hm)
  | true =>
   have e:=Nat.eq_of_beq_eq_true hb;subst e
   simp only [V.sealOK,hb,cond_true] at hok ⊢
   cases hkb:Nat.beq k k' with
   | false=>rw [hkb] at hok;exact hok.elim
   | true =>
    have e:=Nat.eq_of_beq_eq_true hkb;subst e
    rw [hkb] at hok;simp only [cond_true] at hok
    rcases ho with ⟨hn,_⟩|⟨hn,hkp,⟨cur,e,fz,h1,h2,h3,h4⟩,h5,h6,h7⟩
    ·exact absurd hn h
    ·have hlen:((xs.drop lo).take len).length=len:=by simp;omega
     refine .rd (.sl _ o len c k cur e fz _ (.inr ⟨h,rfl⟩) h1 hlen (Nat.le_trans hl hm) hl ?_ (fun x hx=>?_) fun i j x cx hi hj=>?_)
     ·rcases hoo with h0|h0
      ·exact .inl (by omega)
      ·refine .inr ?_
       rw [h0,h2,←Nat.add_mul]
       exact Nat.mul_le_mul_right k (by omega)
     ·obtain ⟨a1,a2,a3⟩:=h7 x (List.mem_of_mem_drop (List.mem_of_mem_take hx))
      exact ⟨a1,a2,a3⟩
     ·have hil:i<len:=by
       have:=(List.getElem?_eq_some_iff.1 hi).1
       omega
      rw [List.getElem?_take,if_pos hil,List.getElem?_drop] at hi
      have hoo':o=(g.base n+lo)*k:=hoo.resolve_left (by omega)
      have:=(h4 (lo+i) j x cx hi hj).mono hk hs
      have e1:o+i*k+j=(g.base n+(lo+i))*k+j:=by
       rw [hoo',←Nat.add_assoc,Nat.add_mul (g.base n+lo) i k]
      rw [e1];exact this
 | optr id k' i off =>
  simp only [V.shut]
  cases Nat.beq n id with
  | true=>exact .any _
  | false=>exact up (.optr id k' i off)
 | omap id =>
  simp only [V.shut]
  cases Nat.beq n id with
  | true=>exact .any _
  | false=>exact up (.omap id)
 | bnil id =>
  simp only [V.shut]
  cases Nat.beq n id with
  | true=>exact .any _
  | false=>exact up (.bnil id)
 | bself id =>
  simp only [V.shut]
  cases Nat.beq n id with
  | true=>exact .any _
  | false=>exact up (.bself id)
 | at_ id b v h=>exact .at_ id b v h
 | nsl z k xs v h=>exact up (.nsl z k xs v h)
 | nsmap b z k kd ents clock es hr hS hg hn=>exact up (.nsmap b z k kd ents clock es hr hS hg hn)
 | agg vs cs hl hr ih =>
  simp only [V.shut,sealL_map]
  simp only [V.sealOK] at hok
  refine .agg vs _ (by simpa using hl) fun i c hc=>?_
  rw [List.getElem?_map] at hc
  cases hx:cs[i]? with
  | none=>rw [hx] at hc;cases hc
  | some y=>rw [hx] at hc;cases hc;exact ih i y hx (sealOKs_mem hok y (List.mem_of_getElem? hx))
 | tup vs cs hl hr ih =>
  simp only [V.shut,sealL_map]
  simp only [V.sealOK] at hok
  refine .tup vs _ (by simpa using hl) fun i c hc=>?_
  rw [List.getElem?_map] at hc
  cases hx:cs[i]? with
  | none=>rw [hx] at hc;cases hc
  | some y=>rw [hx] at hc;cases hc;exact ih i y hx (sealOKs_mem hok y (List.mem_of_getElem? hx))
 | fn f vs cs hl hr ih =>
  simp only [V.shut,sealL_map]
  simp only [V.sealOK] at hok
  refine .fn f vs _ (by simpa using hl) fun i c hc=>?_
  rw [List.getElem?_map] at hc
  cases hx:cs[i]? with
  | none=>rw [hx] at hc;cases hc
  | some y=>rw [hx] at hc;cases hc;exact ih i y hx (sealOKs_mem hok y (List.mem_of_getElem? hx))
 | bnd f vs cs hl hr ih =>
  simp only [V.shut,sealL_map]
  simp only [V.sealOK] at hok
  refine .bnd f vs _ (by simpa using hl) fun i c hc=>?_
  rw [List.getElem?_map] at hc
  cases hx:cs[i]? with
  | none=>rw [hx] at hc;cases hc
  | some y=>rw [hx] at hc;cases hc;exact ih i y hx (sealOKs_mem hok y (List.mem_of_getElem? hx))
theorem OR.shut {n k m:Nat} {xs:List V} {ty:Option TypeId} {o:Obj'} (ho:OR g w n (.arr k xs ty)) (h:OR g w m o) (hok:o.sealOK n k xs.length):OR (g.sealed n) w m (o.shut n xs):=by
 have hk:Keep g.S w w:=fun _ _=>rfl
 have hs:∀b,g.S b→(g.sealed n).S b:=fun _ h=>.inl h
 cases o with
 | cells cs ty =>
  obtain ⟨hnil,cur,e,fz,k1,k2,k3,k4⟩:=h
  simp only [Obj'.sealOK] at hok
  refine ⟨hnil,cur,e,fz,k1,by rw [sealL_map];simpa using k2,k3,fun i c hc=>?_⟩
  rw [sealL_map,List.getElem?_map] at hc
  cases hx:cs[i]? with
  | none=>rw [hx] at hc;cases hc
  | some y=>rw [hx] at hc;cases hc;exact (k4 i y hx).shut ho (sealOKs_mem hok y (List.mem_of_getElem? hx))
 | arr k' ys _=>exact h.mono hk hs (sealed_agree g n m) (fun _=>rfl) (fun i _=>sealed_agree g n i) (Nat.le_refl _)
 | map kd es=>exact h.mono hk hs (sealed_agree g n m) (fun _=>rfl) (fun i _=>sealed_agree g n i) (Nat.le_refl _)
 | iter rem cur=>exact h.mono hk hs (sealed_agree g n m) (fun _=>rfl) (fun i _=>sealed_agree g n i) (Nat.le_refl _)
 | mark=>exact h.mono hk hs (sealed_agree g n m) (fun _=>rfl) (fun i _=>sealed_agree g n i) (Nat.le_refl _)
 | nmap z k' kd es=>exact h.mono hk hs (sealed_agree g n m) (fun _=>rfl) (fun i _=>sealed_agree g n i) (Nat.le_refl _)
theorem Rel.shut {n k:Nat} {xs:List V} {ty:Option TypeId} (h:Rel P c g σ a w) (hf:find n σ.heap=some (.arr k xs ty)) (he:sealEOK n k xs.length σ.env) (hh:sealHOK n k xs.length σ.heap) :
  Rel P c (g.sealed n) ⟨sealE n xs σ.env,sealH n xs σ.heap⟩ a w:=by
 have ho:=h.hp.obj n _ hf
 refine ⟨h.size,h.dfr,fun s x hx=>?_,⟨fun m o hm=>?_,fun i j o o' hi hj hni hnj heq=>?_,fun m o hm hnil hS=>?_,fun b hb=>?_,fun w2 hw2=>h.hp.tabs w2 fun b hb=>hw2 b (.inl hb)⟩,⟨h.fr.os,h.fr.tape,h.fr.output,h.fr.size,h.fr.old,fun m o hm hnil=>?_,fun b hb=>.inl (h.fr.sup b hb),fun b hb=>?_,fun m o hm=>(h.fr.par m o hm).trans (sealed_agree g n m)⟩⟩
 ·rw [find_sealE] at hx
  cases hy:find s σ.env with
  | none=>rw [hy] at hx;cases hx
  | some y =>
   rw [hy] at hx;cases hx
   obtain ⟨h1,h2⟩:=h.env s y hy
   exact ⟨h1,h2.shut ho (sealEOK_find he hy)⟩
 ·obtain ⟨_,o',h2,rfl⟩:=find_sealH hm
  exact OR.shut ho (h.hp.obj m o' h2) (sealHOK_find hh h2)
 ·obtain ⟨_,o1,h1,rfl⟩:=find_sealH hi
  obtain ⟨_,o2,h2,rfl⟩:=find_sealH hj
  exact h.hp.inj i j o1 o2 h1 h2 hni hnj heq
 ·obtain ⟨hne,o1,h1,rfl⟩:=find_sealH hm
  rcases hS with hS|⟨hS1,hS2⟩
  ·exact h.hp.sep m o1 h1 hnil hS
  ·exact hne (h.hp.inj m n o1 _ h1 hf hnil hS1 hS2)
 ·rcases hb with hb|⟨h1,rfl⟩
  ·exact h.hp.lt b hb
  ·exact ho.block h1
 ·obtain ⟨_,o1,h1,rfl⟩:=find_sealH hm
  exact h.fr.own m o1 h1 hnil
 ·rcases hb with hb|⟨h1,rfl⟩
  ·exact h.fr.sub b hb
  ·exact ⟨.inr (h.fr.own n _ hf h1).1,(h.fr.own n _ hf h1).2⟩
theorem shmL_map (n:Nat) (y:V):∀cs:List V,V.shmL n y cs=cs.map (V.shm n y)
 | []=>rfl
 | x::r=>by simp [V.shmL,shmL_map n y r]
theorem find_shmE (n s:Nat) (y:V):∀env:List (Nat×V),find s (shmE n y env)=(find s env).map (V.shm n y)
 | []=>rfl
 | (m,x)::r=>by
  simp only [shmE,find]
  cases Nat.beq s m with
  | true=>rfl
  | false=>exact find_shmE n s y r
theorem find_shmH {n s:Nat} {y:V} {o:Obj'}:∀{H:Heap},find s (shmH n y H)=some o→s≠n∧∃o',find s H=some o'∧o=o'.shm n y
 | (m,x)::r,h=>by
  simp only [shmH] at h
  cases hb:Nat.beq n m with
  | true =>
   rw [hb] at h
   obtain ⟨h1,o',h2,h3⟩:=find_shmH (H:=r) h
   have e:=Nat.eq_of_beq_eq_true hb;subst e
   have hb':Nat.beq s n=false:=by
    cases hb:Nat.beq s n with
    | true=>exact absurd (Nat.eq_of_beq_eq_true hb) h1
    | false=>rfl
   exact ⟨h1,o',by simp only [find,hb',cond_false];exact h2,h3⟩
  | false =>
   rw [hb] at h
   simp only [cond_false,find] at h
   cases hs:Nat.beq s m with
   | true =>
    rw [hs] at h;cases h
    have e:=Nat.eq_of_beq_eq_true hs;subst e
    refine ⟨fun e=>?_,x,by simp [find],rfl⟩
    rw [e,Nat.beq_refl] at hb;cases hb
   | false =>
    rw [hs] at h
    obtain ⟨h1,o',h2,h3⟩:=find_shmH (H:=r) h
    exact ⟨h1,o',by simp only [find,hs,cond_false];exact h2,h3⟩
theorem map_sealed {n:Nat} {kd:KD} {es:List (V×V)} (ho:OR g w n (.map kd es)):Rd (g.sealed n).S w (.map (some (g.ρ n))) (.smap kd es):=by
 have hk:Keep g.S w w:=fun _ _=>rfl
 have hs:∀b,g.S b→(g.sealed n).S b:=fun _ h=>.inl h
 obtain ⟨hn,ents,clock,h1,he,h3,h4⟩:=ho
 refine (.smap _ kd ents clock es (.inr ⟨hn,rfl⟩) h1 (by simpa using he.len) he.key h3 h4 (fun i ent kv hi hj=>?_) fun i ent kv hi hj=>?_)
 ·exact (he.rd i ent kv (by simpa using hi) hj).1.mono hk hs
 ·exact (he.rd i ent kv (by simpa using hi) hj).2.mono hk hs
theorem nmap_sealed {n z k:Nat} {kd:KD} {es:List (V×V)} (ho:OR g w n (.nmap z k kd es)):VR (g.sealed n) w (.map (some (g.ρ n))) (.nsmap z k kd es):=by
 have hk:Keep g.S w w:=fun _ _=>rfl
 have hs:∀b,g.S b→(g.sealed n).S b:=fun _ h=>.inl h
 obtain ⟨hn,ents,clock,h1,he,h3,h4,h5,_⟩:=ho
 have hrd:=map_sealed (g:=g) (w:=w) (n:=n) ⟨hn,ents,clock,h1,he,h3,h4⟩
 refine .nsmap _ z k kd ents clock es hrd (.inr ⟨hn,rfl⟩) h1 fun i ent kv hi hj=>?_
 obtain ⟨xs,e1,e2⟩:=h5 i ent kv hi hj
 exact ⟨xs,e1,e2.mono hk hs⟩
theorem VR.shm {n:Nat} {y:V} {v:Value} {x:V} (ho:VR (g.sealed n) w (.map (some (g.ρ n))) y) (h:VR g w v x):VR (g.sealed n) w v (V.shm n y x):=by
 have hk:Keep g.S w w:=fun _ _=>rfl
 have hs:∀b,g.S b→(g.sealed n).S b:=fun _ h=>.inl h
 have up:∀{v:Value} {x:V},VR g w v x→VR (g.sealed n) w v x:=fun h=>h.mono hk hs fun id _=>sealed_agree g n id
 induction h with
 | @rd v x h =>
  have:V.shm n y x=x:=by
   have flat:∀{u:V} {v:Value},Rd g.S w v u→V.shm n y u=u:=by
    intro u v hy
    induction hy with
    | agg vs cs hl hr ih =>
     simp only [V.shm,shmL_map,V.agg.injEq]
     refine List.ext_getElem? fun i=>?_
     rw [List.getElem?_map]
     cases hc:cs[i]? with
     | none=>rfl
     | some c=>simp [ih i c hc]
    | _=>rfl
   exact flat h
  rw [this];exact .rd (h.mono hk hs)
 | any v=>exact .any v
 | ptr id off=>exact up (.ptr id off)
 | eptr b o off cur e fz x hS hg hb hr=>exact up (.eptr b o off cur e fz x hS hg hb hr)
 | oslnil id k' lo h=>exact up (.oslnil id k' lo h)
 | osl id k' lo len o c h hoo hc hl hm=>exact up (.osl id k' lo len o c h hoo hc hl hm)
 | optr id k' i off=>exact up (.optr id k' i off)
 | bnil id=>exact up (.bnil id)
 | bself id=>exact up (.bself id)
 | omap id =>
  simp only [V.shm]
  cases hb:Nat.beq n id with
  | false=>exact up (.omap id)
  | true =>
   have e:=Nat.eq_of_beq_eq_true hb;subst e
   simpa using ho
 | at_ id b v h=>exact .at_ id b v h
 | nsl z k xs v h=>exact up (.nsl z k xs v h)
 | nsmap b z k kd ents clock es hr hS hg hn=>exact up (.nsmap b z k kd ents clock es hr hS hg hn)
 | agg vs cs hl hr ih =>
  simp only [V.shm,shmL_map]
  refine .agg vs _ (by simpa using hl) fun i c hc=>?_
  rw [List.getElem?_map] at hc
  cases hx:cs[i]? with
  | none=>rw [hx] at hc;cases hc
  | some u=>rw [hx] at hc;cases hc;exact ih i u hx
 | tup vs cs hl hr ih =>
  simp only [V.shm,shmL_map]
  refine .tup vs _ (by simpa using hl) fun i c hc=>?_
  rw [List.getElem?_map] at hc
  cases hx:cs[i]? with
  | none=>rw [hx] at hc;cases hc
  | some u=>rw [hx] at hc;cases hc;exact ih i u hx
 | fn f vs cs hl hr ih =>
  simp only [V.shm,shmL_map]
  refine .fn f vs _ (by simpa using hl) fun i c hc=>?_
  rw [List.getElem?_map] at hc
  cases hx:cs[i]? with
  | none=>rw [hx] at hc;cases hc
  | some u=>rw [hx] at hc;cases hc;exact ih i u hx
 | bnd f vs cs hl hr ih =>
  simp only [V.shm,shmL_map]
  refine .bnd f vs _ (by simpa using hl) fun i c hc=>?_
  rw [List.getElem?_map] at hc
  cases hx:cs[i]? with
  | none=>rw [hx] at hc;cases hc
  | some u=>rw [hx] at hc;cases hc;exact ih i u hx
theorem OR.shm {n m:Nat} {y:V} {o:Obj'} (ho:VR (g.sealed n) w (.map (some (g.ρ n))) y) (h:OR g w m o):OR (g.sealed n) w m (o.shm n y):=by
 have hk:Keep g.S w w:=fun _ _=>rfl
 have hs:∀b,g.S b→(g.sealed n).S b:=fun _ h=>.inl h
 cases o with
 | cells cs ty =>
  obtain ⟨hnil,cur,e,fz,k1,k2,k3,k4⟩:=h
  refine ⟨hnil,cur,e,fz,k1,by rw [shmL_map];simpa using k2,k3,fun i c hc=>?_⟩
  rw [shmL_map,List.getElem?_map] at hc
  cases hx:cs[i]? with
  | none=>rw [hx] at hc;cases hc
  | some u=>rw [hx] at hc;cases hc;exact VR.shm ho (k4 i u hx)
 | arr k' ys _=>exact h.mono hk hs (sealed_agree g n m) (fun _=>rfl) (fun i _=>sealed_agree g n i) (Nat.le_refl _)
 | map kd es=>exact h.mono hk hs (sealed_agree g n m) (fun _=>rfl) (fun i _=>sealed_agree g n i) (Nat.le_refl _)
 | iter rem cur=>exact h.mono hk hs (sealed_agree g n m) (fun _=>rfl) (fun i _=>sealed_agree g n i) (Nat.le_refl _)
 | mark=>exact h.mono hk hs (sealed_agree g n m) (fun _=>rfl) (fun i _=>sealed_agree g n i) (Nat.le_refl _)
 | nmap z k' kd es=>exact h.mono hk hs (sealed_agree g n m) (fun _=>rfl) (fun i _=>sealed_agree g n i) (Nat.le_refl _)
theorem Rel.shm {n:Nat} {y:V} {on:Obj'} (h:Rel P c g σ a w) (hf:find n σ.heap=some on) (ho:VR (g.sealed n) w (.map (some (g.ρ n))) y) :
  Rel P c (g.sealed n) ⟨shmE n y σ.env,shmH n y σ.heap⟩ a w:=by
 refine ⟨h.size,h.dfr,fun s x hx=>?_,⟨fun m o hm=>?_,fun i j o o' hi hj hni hnj heq=>?_,fun m o hm hnil hS=>?_,fun b hb=>?_,fun w2 hw2=>h.hp.tabs w2 fun b hb=>hw2 b (.inl hb)⟩,⟨h.fr.os,h.fr.tape,h.fr.output,h.fr.size,h.fr.old,fun m o hm hnil=>?_,fun b hb=>.inl (h.fr.sup b hb),fun b hb=>?_,h.fr.par⟩⟩
 ·rw [find_shmE] at hx
  cases hy:find s σ.env with
  | none=>rw [hy] at hx;cases hx
  | some u =>
   rw [hy] at hx;cases hx
   obtain ⟨h1,h2⟩:=h.env s u hy
   exact ⟨h1,VR.shm ho h2⟩
 ·obtain ⟨_,o',h2,rfl⟩:=find_shmH hm
  exact OR.shm ho (h.hp.obj m o' h2)
 ·obtain ⟨_,o1,h1,rfl⟩:=find_shmH hi
  obtain ⟨_,o2,h2,rfl⟩:=find_shmH hj
  exact h.hp.inj i j o1 o2 h1 h2 hni hnj heq
 ·obtain ⟨hne,o1,h1,rfl⟩:=find_shmH hm
  rcases hS with hS|⟨hS1,hS2⟩
  ·exact h.hp.sep m o1 h1 hnil hS
  ·exact hne (h.hp.inj m n o1 _ h1 hf hnil hS1 hS2)
 ·rcases hb with hb|⟨h1,rfl⟩
  ·exact h.hp.lt b hb
  ·exact (h.hp.obj n _ hf).block h1
 ·obtain ⟨_,o1,h1,rfl⟩:=find_shmH hm
  exact h.fr.own m o1 h1 hnil
 ·rcases hb with hb|⟨h1,rfl⟩
  ·exact h.fr.sub b hb
  ·exact ⟨.inr (h.fr.own n _ hf h1).1,(h.fr.own n _ hf h1).2⟩
theorem unnilL_map:∀cs:List V,V.unnilL cs=cs.map V.unnil
 | []=>rfl
 | x::r=>by simp [V.unnilL,unnilL_map r]
theorem VR.unnil {v:Value} {x:V} (h:VR g w v x):VR g w v x.unnil:=by
 have rd:∀{v:Value} {x:V},Rd g.S w v x→Rd g.S w v x.unnil:=by
  intro v x h
  induction h with
  | nils=>exact .nilsl
  | agg vs cs hl hr ih =>
   simp only [V.unnil,unnilL_map]
   refine .agg vs _ (by simpa using hl) fun i c hc=>?_
   rw [List.getElem?_map] at hc
   cases hx:cs[i]? with
   | none=>rw [hx] at hc;cases hc
   | some y=>rw [hx] at hc;cases hc;exact ih i y hx
  | bool b=>exact .bool b
  | int k n h=>exact .int k n h
  | str s h=>exact .str s h
  | nilsl=>exact .nilsl
  | slz a cap=>exact .slz a cap
  | nilp=>exact .nilp
  | nilm=>exact .nilm
  | nilf=>exact .nilf
  | nili=>exact .nili
  | ifcn=>exact .ifcn
  | ifcs t p=>exact .ifcs t p
  | adr b off=>exact .adr b off
  | fnc n=>exact .fnc n
  | sl g' o len cap k cur e fz xs h1 h2 h3 h4 h5 h6 h7 h8 _=>exact .sl g' o len cap k cur e fz xs h1 h2 h3 h4 h5 h6 h7 h8
  | smap b kd ents clock es h1 h2 h3 h4 h5 h6 h7 h8 _ _=>exact .smap b kd ents clock es h1 h2 h3 h4 h5 h6 h7 h8
 induction h with
 | rd h=>exact .rd (rd h)
 | agg vs cs hl hr ih =>
  simp only [V.unnil,unnilL_map]
  refine .agg vs _ (by simpa using hl) fun i c hc=>?_
  rw [List.getElem?_map] at hc
  cases hx:cs[i]? with
  | none=>rw [hx] at hc;cases hc
  | some y=>rw [hx] at hc;cases hc;exact ih i y hx
 | at_ id b v h=>exact .at_ id b v h
 | any v=>exact .any v
 | ptr id off=>exact .ptr id off
 | eptr b o off cur e fz x hS hg hb hr=>exact .eptr b o off cur e fz x hS hg hb hr
 | oslnil id k lo h=>exact .oslnil id k lo h
 | osl id k lo len o c h1 h2 h3 h4 h5=>exact .osl id k lo len o c h1 h2 h3 h4 h5
 | optr id k i off=>exact .optr id k i off
 | omap id=>exact .omap id
 | bnil id=>exact .bnil id
 | bself id=>exact .bself id
 | nsl z k xs v h=>exact .nsl z k xs v h
 | nsmap b z k kd ents clock es hr hS hg hn=>exact .nsmap b z k kd ents clock es hr hS hg hn
 | tup vs cs hl hr _=>exact .tup vs cs hl hr
 | fn f vs cs hl hr _=>exact .fn f vs cs hl hr
 | bnd f vs cs hl hr _=>exact .bnd f vs cs hl hr
theorem Rel.accC {id off id2 k:Nat} {ty:Option TypeId} {cs:List V} {t:Option TypeId} (h:Rel P c g σ a w) (hf:find id σ.heap=some (.cells cs t)) (hn:cs[off]?=some .nils) (hcl:Clean c σ id2) (hne:id≠id2) :
  Rel P c (g.setNil id2) ⟨σ.env,Go.Ab.put id (.cells (cs.set off (.osl id2 k 0 0)) t) (Go.Ab.put id2 (.arr k [] ty) σ.heap)⟩ a w:=by
 have hk:Keep g.S w w:=fun _ _=>rfl
 have hag:∀i,i≠id2→g.agree (g.setNil id2) i:=fun i hi=>Gh.setNil_agree hi
 have hO:=h.hp.obj id _ hf
 have hO2:OR (g.setNil id2) w id (.cells cs t):=hO.mono hk (fun _ h=>h) (hag id hne) (fun _=>rfl) (fun n hn'=>hag n fun e=>by
  rw [e,noHeap_find hcl.2.2 hf] at hn';cases hn') (Nat.le_refl _)
 have hnil:¬(g.setNil id2).nil id:=hO2.1
 have hst:StepOK g σ.heap w ⟨.any,[],[(id2,.arr k [] ty),(id,.cells (cs.set off (.osl id2 k 0 0)) t)]⟩ (g.setNil id2) w:=by
  refine ⟨rfl,rfl,rfl,Nat.le_refl _,fun _ _ _=>rfl,fun _ h=>h,fun b hb=>.inl hb,h.hp.lt,fun i hi=>hag i fun e=>hi (.arr k [] ty) (by simp [e]),?_,?_,?_,?_⟩
  ·intro i o ho
   simp at ho
   rcases ho with ⟨rfl,rfl⟩|⟨rfl,rfl⟩
   ·exact .inl ⟨.inl rfl,rfl⟩
   ·obtain ⟨h1,cur,e,fz,h2,h3,h4,h5⟩:=hO2
    refine ⟨h1,cur,e,fz,h2,by simpa using h3,h4,fun j x hj=>?_⟩
    rw [List.getElem?_set] at hj
    by_cases e1:off=j
    ·subst e1
     have hlt:off<cs.length:=(List.getElem?_eq_some_iff.1 hn).1
     simp [hlt] at hj;subst hj
     have:=h5 off _ hn
     rw [this.nils_inv];exact .oslnil id2 k 0 (.inl rfl)
    ·rw [if_neg e1] at hj;exact h5 j x hj
  ·intro i o ho hni
   simp at ho
   rcases ho with ⟨rfl,rfl⟩|⟨rfl,rfl⟩
   ·exact absurd (.inl rfl) hni
   ·obtain ⟨e1,_,_,e4⟩:=hag i hne
    exact .inr ⟨i,_,by simp [Eff.ids],hf,fun h=>hni (e4.2 h),e1.symm⟩
  ·intro i j o o' hi hj hni hnj _
   simp at hi hj
   rcases hi with ⟨rfl,rfl⟩|⟨rfl,rfl⟩
   ·exact absurd (.inl rfl) hni
   ·rcases hj with ⟨rfl,rfl⟩|⟨rfl,rfl⟩
    ·exact absurd (.inl rfl) hnj
    ·rfl
  ·intro i o ho hni hS
   simp at ho
   rcases ho with ⟨rfl,rfl⟩|⟨rfl,rfl⟩
   ·exact hni (.inl rfl)
   ·obtain ⟨e1,_,_,e4⟩:=hag i hne
    rw [e1] at hS
    exact h.hp.sep i _ hf (fun h=>hni (e4.2 h)) hS
 have hfr:Fresh c.H0 g (g.setNil id2) σ ⟨.any,[],[(id2,.arr k [] ty),(id,.cells (cs.set off (.osl id2 k 0 0)) t)]⟩:=by
  intro i o ho
  simp at ho
  rcases ho with ⟨rfl,rfl⟩|⟨rfl,rfl⟩
  ·exact .inr ⟨hcl.1,fun s x hx=>noEnv_find hcl.2.1 hx,fun n o' hn' _=>noHeap_find hcl.2.2 hn'⟩
  ·exact .inl (hag i hne)
 exact h.step (d:=none) (v:=undef) (fun n hn=>by cases hn) hst hfr (.any _)
theorem shqs_sound:∀{l:List Nat} {K:St→Prop} {g:Gh} {σ:St},shqs l σ K→Rel P c g σ a w→∃g' σ',K σ'∧Rel P c g' σ' a w
 | [],K,g,σ,h,hR=>⟨g,σ,h,hR⟩
 | id::r,K,g,σ,h,hR=>by
  simp only [shqs,shq1] at h
  split at h
  ·rename_i k xs ty hf
   exact shqs_sound h.2.2 (hR.shut hf h.1 h.2.1)
  ·rename_i kd es hf
   exact shqs_sound h (hR.shm hf (.rd (map_sealed (hR.hp.obj _ _ hf))))
  ·rename_i z k kd es hf
   exact shqs_sound h (hR.shm hf (nmap_sealed (hR.hp.obj _ _ hf)))
  ·exact shqs_sound h hR
  ·exact h.elim
theorem Rel.putv {s:Nat} {x y:V} (hR:Rel P c g σ a w) (hx:find s σ.env=some x) (hv:VR g w (a.tmps.getD s undef) y):Rel P c g ⟨Go.Ab.put s y σ.env,σ.heap⟩ a w:=by
 refine ⟨hR.size,hR.dfr,fun n z hn=>?_,hR.hp,hR.fr⟩
 rw [find_put] at hn
 split at hn
 ·rename_i e;cases hn;rw [e];exact ⟨(hR.env s _ hx).1,hv⟩
 ·exact hR.env n z hn
theorem VR.at_inv {v:Value} {id b:Nat} (h:VR g w v (.at_ id b)):g.ρ id=b:=by
 cases h with
 | rd h=>cases h
 | at_ _ _ _ h=>exact h
theorem VR.adr_inv {v:Value} {b off:Nat} (h:VR g w v (.adr b off)):v=.pointer (some ⟨b,off,none⟩):=by
 cases h with|rd h=>cases h;rfl
theorem Rel.nl {s:Nat} {x:V} (hR:Rel P c g σ a w) (hx:find s σ.env=some x):Rel P c g ⟨Go.Ab.put s x.unnil σ.env,σ.heap⟩ a w:=by
 refine ⟨hR.size,hR.dfr,fun t y hy=>?_,hR.hp,hR.fr⟩
 simp only [find_put] at hy
 obtain ⟨h1,h2⟩:=hR.env s x hx
 by_cases e:t=s
 ·subst e;simp at hy;subst hy;exact ⟨h1,h2.unnil⟩
 ·simp only [e,if_false] at hy;exact hR.env t y hy
def Gh.trim (g:Gh) (n lo:Nat):Gh:={ g with base:=fun i=>if i=n then g.base i+lo else g.base i,cap:=fun i=>if i=n then g.cap i - lo else g.cap i }
theorem trim_agree {g:Gh} {n lo i:Nat} (h:i≠n):g.agree (g.trim n lo) i:=by simp [Gh.agree,Gh.trim,h]
theorem trL_map (n lo len:Nat):∀cs:List V,V.trL n lo len cs=cs.map (V.tr n lo len)
 | []=>rfl
 | x::r=>by simp [V.trL,trL_map n lo len r]
theorem find_trE (n lo len s:Nat):∀env:List (Nat×V),find s (trE n lo len env)=(find s env).map (V.tr n lo len)
 | []=>rfl
 | (m,x)::r=>by
  simp only [trE,find]
  cases Nat.beq s m with
  | true=>rfl
  | false=>exact find_trE n lo len s r
theorem find_trH (n lo len s:Nat):∀H:Heap,find s (trH n lo len H)=(find s H).map (Obj'.tr n lo len)
 | []=>rfl
 | (m,x)::r=>by
  simp only [trH,find]
  cases Nat.beq s m with
  | true=>rfl
  | false=>exact find_trH n lo len s r
theorem nbeq {n m:Nat} (h:n≠m):Nat.beq n m=false:=by
 cases hb:Nat.beq n m with
 | true=>exact absurd (Nat.eq_of_beq_eq_true hb) h
 | false=>rfl
theorem Rd.tr {S:Nat→Prop} {v:Value} {x:V} {n lo len:Nat} (h:Rd S w v x):x.tr n lo len=x:=by
 induction h with
 | agg vs cs hl hr ih =>
  simp only [V.tr,trL_map,V.agg.injEq]
  refine List.ext_getElem? fun i=>?_
  rw [List.getElem?_map]
  cases hc:cs[i]? with
  | none=>rfl
  | some c=>simp [ih i c hc]
 | _=>rfl
theorem VR.tr {n lo len:Nat} {v:Value} {x:V} (h:VR g w v x):VR (g.trim n lo) w v (x.tr n lo len):=by
 induction h with
 | rd h=>rw [h.tr];exact .rd h
 | any v=>exact .any v
 | ptr id off =>
  simp only [V.tr]
  by_cases e:id=n
  ·subst e;simp only [Nat.beq_refl,cond_true];exact .any _
  ·simp only [nbeq e,cond_false];exact .ptr (g:=g.trim n lo) id off
 | eptr b o off cur e fz x hS hg hb hr=>exact .eptr b o off cur e fz x hS hg hb hr
 | oslnil id k l h =>
  simp only [V.tr]
  by_cases e:id=n
  ·subst e
   simp only [Nat.beq_refl,cond_true]
   cases Nat.beq l lo&&Nat.beq 0 len with
   | true=>exact .oslnil (g:=g.trim id lo) id k 0 h
   | false=>exact .any _
  ·simp only [nbeq e,cond_false];exact .oslnil (g:=g.trim n lo) id k l h
 | osl id k l m o cc h1 h2 h3 h4 h5 =>
  simp only [V.tr]
  by_cases e:id=n
  ·subst e
   simp only [Nat.beq_refl,cond_true]
   cases hb:Nat.beq l lo&&Nat.beq m len with
   | true =>
    simp only [Bool.and_eq_true] at hb
    have:=Nat.eq_of_beq_eq_true hb.1;subst this
    exact .osl (g:=g.trim id l) id k 0 m o cc h1 (by simpa [Gh.trim] using h2) (by simp [Gh.trim];omega) h4 h5
   | false=>exact .any _
  ·simp only [nbeq e,cond_false]
   exact .osl (g:=g.trim n lo) id k l m o cc h1 (by simpa [Gh.trim,e] using h2) (by simpa [Gh.trim,e] using h3) h4 h5
 | optr id k i off =>
  simp only [V.tr]
  by_cases e:id=n
  ·subst e;simp only [Nat.beq_refl,cond_true];exact .any _
  ·simp only [nbeq e,cond_false]
   have:=VR.optr (g:=g.trim n lo) (w:=w) id k i off
   simpa [Gh.trim,e] using this
 | omap id =>
  simp only [V.tr]
  by_cases e:id=n
  ·subst e;simp only [Nat.beq_refl,cond_true];exact .any _
  ·simp only [nbeq e,cond_false];exact .omap (g:=g.trim n lo) id
 | bnil id =>
  simp only [V.tr]
  by_cases e:id=n
  ·subst e;simp only [Nat.beq_refl,cond_true];exact .any _
  ·simp only [nbeq e,cond_false];exact .bnil id
 | bself id =>
  simp only [V.tr]
  by_cases e:id=n
  ·subst e;simp only [Nat.beq_refl,cond_true];exact .any _
  ·simp only [nbeq e,cond_false];exact .bself (g:=g.trim n lo) id
 | at_ id b v h=>exact .at_ id b v h
 | nsl z k xs v h =>
  simp only [V.tr]
  by_cases e:z=n
  ·subst e;simp only [Nat.beq_refl,cond_true];exact .any _
  ·simp only [nbeq e,cond_false]
   have:(g.trim n lo).base z=g.base z:=by simp [Gh.trim,e]
   exact .nsl z k xs v (by rw [this];exact h)
 | nsmap b z k kd ents clock es hr hS hg hn =>
  simp only [V.tr]
  by_cases e:z=n
  ·subst e;simp only [Nat.beq_refl,cond_true];exact .any _
  ·simp only [nbeq e,cond_false]
   have:(g.trim n lo).base z=g.base z:=by simp [Gh.trim,e]
   exact .nsmap b z k kd ents clock es hr hS hg fun i ent kv a1 a2=>by rw [this];exact hn i ent kv a1 a2
 | agg vs cs hl hr ih =>
  simp only [V.tr,trL_map]
  refine .agg vs _ (by simpa using hl) fun i c hc=>?_
  rw [List.getElem?_map] at hc
  cases hx:cs[i]? with
  | none=>rw [hx] at hc;cases hc
  | some y=>rw [hx] at hc;cases hc;exact ih i y hx
 | tup vs cs hl hr ih =>
  simp only [V.tr,trL_map]
  refine .tup vs _ (by simpa using hl) fun i c hc=>?_
  rw [List.getElem?_map] at hc
  cases hx:cs[i]? with
  | none=>rw [hx] at hc;cases hc
  | some y=>rw [hx] at hc;cases hc;exact ih i y hx
 | fn f vs cs hl hr ih =>
  simp only [V.tr,trL_map]
  refine .fn f vs _ (by simpa using hl) fun i c hc=>?_
  rw [List.getElem?_map] at hc
  cases hx:cs[i]? with
  | none=>rw [hx] at hc;cases hc
  | some y=>rw [hx] at hc;cases hc;exact ih i y hx
 | bnd f vs cs hl hr ih =>
  simp only [V.tr,trL_map]
  refine .bnd f vs _ (by simpa using hl) fun i c hc=>?_
  rw [List.getElem?_map] at hc
  cases hx:cs[i]? with
  | none=>rw [hx] at hc;cases hc
  | some y=>rw [hx] at hc;cases hc;exact ih i y hx
theorem OR.tr {n lo len m:Nat} {o:Obj'} (h:OR g w m o) (hm:m≠n):OR (g.trim n lo) w m (o.tr n lo len):=by
 cases o with
 | cells cs t =>
  obtain ⟨h1,cur,e,fz,h2,h3,h4,h5⟩:=h
  refine ⟨h1,cur,e,fz,h2,by rw [trL_map];simpa using h3,h4,fun i x hx=>?_⟩
  rw [trL_map,List.getElem?_map] at hx
  cases hy:cs[i]? with
  | none=>rw [hy] at hx;cases hx
  | some y=>rw [hy] at hx;cases hx;exact (h5 i y hy).tr
 | arr k xs t =>
  rcases h with ⟨h1,h2⟩|⟨h1,h2⟩
  ·exact .inl ⟨h1,h2⟩
  ·refine .inr ⟨h1,?_⟩
   have e1:(g.trim n lo).base m=g.base m:=by simp [Gh.trim,hm]
   have e2:(g.trim n lo).cap m=g.cap m:=by simp [Gh.trim,hm]
   rw [e1,e2];exact h2
 | map kd es=>exact h
 | iter rem cur=>exact h
 | mark =>
  have e1:(g.trim n lo).base m=g.base m:=by simp [Gh.trim,hm]
  exact ⟨h.1,fun b hb=>h.2 b (by rw [←e1];exact hb)⟩
 | nmap z k kd es =>
  obtain ⟨hnil,ents,clock,k1,k2,k3,k4,k5,k6⟩:=h
  by_cases e:z=n
  ·subst e;simp only [Obj'.tr,Nat.beq_refl,cond_true];exact ⟨hnil,ents,clock,k1,k2,k3,k4⟩
  ·simp only [Obj'.tr,nbeq e,cond_false]
   have:(g.trim n lo).base z=g.base z:=by simp [Gh.trim,e]
   exact ⟨hnil,ents,clock,k1,k2,k3,k4,fun i ent kv a1 a2=>by rw [this];exact k5 i ent kv a1 a2,fun b hb=>k6 b (by rw [←this];exact hb)⟩
theorem OR.trim {n lo len k:Nat} {xs:List V} {t:Option TypeId} {v:Value} (h:OR g w n (.arr k xs t)) (hv:VR g w v (.osl n k lo len)):OR (g.trim n lo) w n (.arr k ((xs.drop lo).take len) t):=by
 rcases h with ⟨h1,h2⟩|⟨h1,h2⟩
 ·exact .inl ⟨h1,by simp [h2]⟩
 ·refine .inr ⟨h1,?_⟩
  rcases hv.osl_inv with ⟨h3,_⟩|⟨_,o,cc,_,_,hcap,hlc,_⟩
  ·exact absurd h3 h1
  obtain ⟨kpos,⟨cur,e,fz,r1,r2,r3,r4⟩,hlen,hbig,helem⟩:=h2
  have e1:(g.trim n lo).base n=g.base n+lo:=by simp [Gh.trim]
  have e2:(g.trim n lo).cap n=g.cap n - lo:=by simp [Gh.trim]
  rw [e1,e2]
  refine ⟨kpos,⟨cur,e,fz,r1,?_,r3,fun i j x c hx hc=>?_⟩,?_,by omega,fun x hx=>helem x (List.mem_of_mem_drop (List.mem_of_mem_take hx))⟩
  ·rw [r2];congr 1;omega
  ·have hi:i<len:=by
    have:=(List.getElem?_eq_some_iff.1 hx).1
    simp at this;omega
   rw [List.getElem?_take,if_pos hi,List.getElem?_drop] at hx
   have:=r4 (lo+i) j x c hx hc
   rw [show g.base n+lo+i=g.base n+(lo+i) by omega];exact this
  ·simp;omega
theorem Rel.trim {n lo len k s:Nat} {xs:List V} {t:Option TypeId} (h:Rel P c g σ a w) (hs:find s σ.env=some (.osl n k lo len)) (hf:find n σ.heap=some (.arr k xs t)) (h0:find n c.H0=none) :
  Rel P c (g.trim n lo) ⟨trE n lo len σ.env,Go.Ab.put n (.arr k ((xs.drop lo).take len) t) (trH n lo len σ.heap)⟩ a w:=by
 have key:∀m o,find m (Go.Ab.put n (.arr k ((xs.drop lo).take len) t) (trH n lo len σ.heap))=some o→(∃o',find m σ.heap=some o')∧OR (g.trim n lo) w m o:=fun m o hm=>by
  rw [find_put] at hm
  by_cases e:m=n
  ·subst e
   simp at hm;subst hm
   exact ⟨⟨_,hf⟩,(h.hp.obj m _ hf).trim (h.env s _ hs).2⟩
  ·simp only [e,if_false,find_trH] at hm
   cases hy:find m σ.heap with
   | none=>rw [hy] at hm;cases hm
   | some y=>rw [hy] at hm;cases hm;exact ⟨⟨_,rfl⟩,(h.hp.obj m _ hy).tr e⟩
 refine ⟨h.size,h.dfr,fun s x hx=>?_,⟨fun m o hm=>(key m o hm).2,fun i j o o' hi hj hni hnj he=>?_,fun m o hm hnil hS=>?_,h.hp.lt,h.hp.tabs⟩,⟨h.fr.os,h.fr.tape,h.fr.output,h.fr.size,h.fr.old,fun m o hm hnil=>?_,h.fr.sup,h.fr.sub,fun m o hm=>(h.fr.par m o hm).trans (trim_agree fun e=>?_)⟩⟩
 ·rw [find_trE] at hx
  cases hy:find s σ.env with
  | none=>rw [hy] at hx;cases hx
  | some y=>rw [hy] at hx;cases hx;exact ⟨(h.env s y hy).1,(h.env s y hy).2.tr⟩
 ·obtain ⟨o1,h1⟩:=(key i o hi).1
  obtain ⟨o2,h2⟩:=(key j o' hj).1
  exact h.hp.inj i j o1 o2 h1 h2 hni hnj he
 ·obtain ⟨o1,h1⟩:=(key m o hm).1
  exact h.hp.sep m o1 h1 hnil hS
 ·obtain ⟨o1,h1⟩:=(key m o hm).1
  exact h.fr.own m o1 h1 hnil
 ·rw [e,h0] at hm;cases hm
theorem Rel.nlc {id:Nat} {cs:List V} {t:Option TypeId} (h:Rel P c g σ a w) (hf:find id σ.heap=some (.cells cs t)):Rel P c g ⟨σ.env,Go.Ab.put id (.cells (V.unnilL cs) t) σ.heap⟩ a w:=by
 have key:∀m o,find m (Go.Ab.put id (.cells (V.unnilL cs) t) σ.heap)=some o→(∃o',find m σ.heap=some o')∧OR g w m o:=fun m o hm=>by
  rw [find_put] at hm
  by_cases e:m=id
  ·subst e
   simp at hm;subst hm
   refine ⟨⟨_,hf⟩,?_⟩
   obtain ⟨h1,cur,e,fz,h2,h3,h4,h5⟩:=h.hp.obj m _ hf
   refine ⟨h1,cur,e,fz,h2,by rw [unnilL_map];simpa using h3,h4,fun i x hx=>?_⟩
   rw [unnilL_map,List.getElem?_map] at hx
   cases hy:cs[i]? with
   | none=>rw [hy] at hx;cases hx
   | some y=>rw [hy] at hx;cases hx;exact (h5 i y hy).unnil
  ·simp only [e,if_false] at hm
   exact ⟨⟨_,hm⟩,h.hp.obj m _ hm⟩
 refine ⟨h.size,h.dfr,h.env,⟨fun m o hm=>(key m o hm).2,fun i j o o' hi hj hni hnj he=>?_,fun m o hm hnil hS=>?_,h.hp.lt,h.hp.tabs⟩,⟨h.fr.os,h.fr.tape,h.fr.output,h.fr.size,h.fr.old,fun m o hm hnil=>?_,h.fr.sup,h.fr.sub,h.fr.par⟩⟩
 ·obtain ⟨o1,h1⟩:=(key i o hi).1
  obtain ⟨o2,h2⟩:=(key j o' hj).1
  exact h.hp.inj i j o1 o2 h1 h2 hni hnj he
 ·obtain ⟨o1,h1⟩:=(key m o hm).1
  exact h.hp.sep m o1 h1 hnil hS
 ·obtain ⟨o1,h1⟩:=(key m o hm).1
  exact h.fr.own m o1 h1 hnil
theorem isB_vr {g:Gh} {w:World} {id:Nat} {x:V} {v:Value} (hx:x.isB id=true) (h:VR g w v x):VR g w v (.bptr id):=by
 unfold V.isB at hx
 split at hx
 ·rw [show v=.pointer none by cases h with|rd h=>cases h;rfl];exact .bnil id
 ·simp only [Bool.and_eq_true] at hx
  have e1:=Nat.eq_of_beq_eq_true hx.1
  have e2:=Nat.eq_of_beq_eq_true hx.2
  subst e1 e2
  rw [h.ptr_inv];exact .bself _
 ·have:=Nat.eq_of_beq_eq_true hx;subst this;exact h
 ·cases hx
theorem Rel.bld {id:Nat} {x:V} {cs:List V} {t:Option TypeId} (h:Rel P c g σ a w) (hf:find id σ.heap=some (.cells (x::cs) t)) (hx:x.isB id=true):Rel P c g ⟨σ.env,Go.Ab.put id (.cells (.bptr id::cs) t) σ.heap⟩ a w:=by
 have key:∀m o,find m (Go.Ab.put id (.cells (.bptr id::cs) t) σ.heap)=some o→(∃o',find m σ.heap=some o')∧OR g w m o:=fun m o hm=>by
  rw [find_put] at hm
  by_cases e:m=id
  ·subst e
   simp at hm;subst hm
   refine ⟨⟨_,hf⟩,?_⟩
   obtain ⟨h1,cur,e,fz,h2,h3,h4,h5⟩:=h.hp.obj m _ hf
   refine ⟨h1,cur,e,fz,h2,by simpa using h3,h4,fun i y hy=>?_⟩
   cases i with
   | zero=>simp at hy;subst hy;exact isB_vr hx (h5 0 x rfl)
   | succ i=>exact h5 (i+1) y (by simpa using hy)
  ·simp only [e,if_false] at hm
   exact ⟨⟨_,hm⟩,h.hp.obj m _ hm⟩
 refine ⟨h.size,h.dfr,h.env,⟨fun m o hm=>(key m o hm).2,fun i j o o' hi hj hni hnj he=>?_,fun m o hm hnil hS=>?_,h.hp.lt,h.hp.tabs⟩,⟨h.fr.os,h.fr.tape,h.fr.output,h.fr.size,h.fr.old,fun m o hm hnil=>?_,h.fr.sup,h.fr.sub,h.fr.par⟩⟩
 ·obtain ⟨o1,h1⟩:=(key i o hi).1
  obtain ⟨o2,h2⟩:=(key j o' hj).1
  exact h.hp.inj i j o1 o2 h1 h2 hni hnj he
 ·obtain ⟨o1,h1⟩:=(key m o hm).1
  exact h.hp.sep m o1 h1 hnil hS
 ·obtain ⟨o1,h1⟩:=(key m o hm).1
  exact h.fr.own m o1 h1 hnil
theorem isNils_inv:∀{x:V},x.isNils=true→x=.nils
 | .nils,_=>rfl
theorem Rel.nm {id z k:Nat} {kd:KD} {es:List (V×V)} (h:Rel P c g σ a w) (hf:find id σ.heap=some (.map kd es)) (hz:find z σ.heap=some .mark) (hn:es.all (fun e=>e.2.isNils)=true) :
  Rel P c g ⟨σ.env,Go.Ab.put id (.nmap z k kd (es.map fun e=>(e.1,.sl []))) σ.heap⟩ a w:=by
 have key:∀m o,find m (Go.Ab.put id (.nmap z k kd (es.map fun e=>(e.1,.sl []))) σ.heap)=some o→(∃o',find m σ.heap=some o')∧OR g w m o:=fun m o hm=>by
  rw [find_put] at hm
  by_cases e:m=id
  ·subst e
   simp at hm;subst hm
   refine ⟨⟨_,hf⟩,?_⟩
   obtain ⟨h1,ents,clock,h2,h3,h4,h5⟩:=h.hp.obj m _ hf
   have val:∀(i:Nat) (ent:MapEntry) (kv:V×V),ents[i]?=some ent→es[i]?=some kv→ent.val=.slice none 0 0:=fun i ent kv hi hj=>by
    have h6:=(h3.rd i ent kv (by simpa using hi) hj).2
    rw [isNils_inv (List.all_eq_true.1 hn kv (List.mem_of_getElem? hj))] at h6
    exact (VR.rd (g:=g) h6).nils_inv
   have un:∀(i:Nat) (kv:V×V),(es.map fun e=>(e.1,V.sl []))[i]?=some kv→∃kv',es[i]?=some kv'∧kv=(kv'.1,V.sl []):=fun i kv hj=>by
    rw [List.getElem?_map] at hj
    cases hx:es[i]? with
    | none=>rw [hx] at hj;cases hj
    | some kv'=>rw [hx] at hj;cases hj;exact ⟨kv',rfl,rfl⟩
   refine ⟨h1,ents,clock,h2,⟨by simpa using h3.len,fun kv hm=>?_,fun i ent kv hi hj=>?_⟩,h4,h5,fun i ent kv hi hj=>?_,(h.hp.obj z _ hz).2⟩
   ·obtain ⟨e,he,rfl⟩:=List.mem_map.1 hm
    exact h3.key e he
   ·obtain ⟨kv',e1,rfl⟩:=un i kv hj
    refine ⟨(h3.rd i ent kv' hi e1).1,?_⟩
    rw [val i ent kv' (by simpa using hi) e1];exact .nilsl
   ·obtain ⟨kv',e1,rfl⟩:=un i kv hj
    exact ⟨[],rfl,.inl ⟨val i ent kv' hi e1,rfl⟩⟩
  ·simp only [e,if_false] at hm
   exact ⟨⟨_,hm⟩,h.hp.obj m _ hm⟩
 refine ⟨h.size,h.dfr,h.env,⟨fun m o hm=>(key m o hm).2,fun i j o o' hi hj hni hnj he=>?_,fun m o hm hnil hS=>?_,h.hp.lt,h.hp.tabs⟩,⟨h.fr.os,h.fr.tape,h.fr.output,h.fr.size,h.fr.old,fun m o hm hnil=>?_,h.fr.sup,h.fr.sub,h.fr.par⟩⟩
 ·obtain ⟨o1,h1⟩:=(key i o hi).1
  obtain ⟨o2,h2⟩:=(key j o' hj).1
  exact h.hp.inj i j o1 o2 h1 h2 hni hnj he
 ·obtain ⟨o1,h1⟩:=(key m o hm).1
  exact h.hp.sep m o1 h1 hnil hS
 ·obtain ⟨o1,h1⟩:=(key m o hm).1
  exact h.fr.own m o1 h1 hnil
theorem note_sound {n:Note} {K:St→Prop} (h:stepNote c.H0 n σ K) (hR:Rel P c g σ a w):∃g' σ',K σ'∧Rel P c g' σ' a w:=by
 cases n with
 | gc keep=>exact ⟨g,_,h,hR.sub (fun s x hx=>find_filt hx) fun _ _ h=>h⟩
 | adq s q =>
  simp only [stepNote] at h
  split at h
  ·rename_i id off y hs hq
   exact ⟨g,_,h (g.ρ id),hR.putv hq (.at_ id _ _ rfl)⟩
  ·exact h.elim
 | toA s q =>
  simp only [stepNote] at h
  split at h
  ·rename_i id off id' b hs hq
   cases hi:Nat.beq id id' with
   | false=>rw [hi] at h;exact h.elim
   | true =>
    rw [hi] at h
    have e:=Nat.eq_of_beq_eq_true hi;subst e
    have h1:=(hR.env s _ hs).2
    have h2:=(hR.env q _ hq).2
    refine ⟨g,_,h,hR.putv hs ?_⟩
    rw [h1.ptr_inv,←h2.at_inv];exact .rd (.adr _ _)
  ·exact h.elim
 | ofA s q =>
  simp only [stepNote] at h
  split at h
  ·rename_i b off id b' hs hq
   obtain ⟨rfl,h⟩:=h
   have h1:=(hR.env s _ hs).2
   have h2:=(hR.env q _ hq).2
   refine ⟨g,_,h,hR.putv hs ?_⟩
   rw [h1.adr_inv,←h2.at_inv];exact .ptr _ _
  ·exact h.elim
 | nm id z k =>
  simp only [stepNote] at h
  split at h
  ·rename_i kd es hf
   split at h
   ·rename_i hz
    cases hn:es.all fun e=>e.2.isNils with
    | false=>rw [hn] at h;exact h.elim
    | true=>rw [hn] at h;exact ⟨g,_,h,hR.nm hf hz hn⟩
   ·exact h.elim
  ·exact h.elim
 | bld id =>
  simp only [stepNote] at h
  split at h
  ·rename_i x cs t hf
   cases hx:x.isB id with
   | false=>rw [hx] at h;exact h.elim
   | true=>rw [hx] at h;exact ⟨g,_,h,hR.bld hf hx⟩
  ·exact h.elim
 | fz s =>
  simp only [stepNote] at h
  split at h
  ·rename_i x hx
   obtain ⟨g',σ',h1,h2⟩:=shqs_sound h hR
   split at h1
   ·rename_i y hy
    exact ⟨g',_,h1,h2.nl hy⟩
   ·exact h1.elim
  ·exact ⟨g,σ,h,hR⟩
 | fzc s =>
  simp only [stepNote] at h
  split at h
  ·rename_i id off hs
   split at h
   ·rename_i cs t hf
    obtain ⟨g',σ',h1,h2⟩:=shqs_sound h hR
    split at h1
    ·rename_i ds t' hd
     exact ⟨g',_,h1,h2.nlc hd⟩
    ·exact h1.elim
   ·exact h.elim
  ·exact h.elim
 | trim s =>
  simp only [stepNote] at h
  split at h
  ·rename_i id k lo n hs
   split at h
   ·rename_i k' xs t hf h0
    cases hk:Nat.beq k k' with
    | false=>rw [hk] at h;exact h.elim
    | true =>
     rw [hk] at h
     have:=Nat.eq_of_beq_eq_true hk;subst this
     exact ⟨_,_,h,hR.trim hs hf h0⟩
   ·exact h.elim
  ·exact ⟨g,σ,h,hR⟩
 | ownC id off id2 k ty =>
  simp only [stepNote] at h
  split at h
  ·rename_i cs t hf
   split at h
   ·rename_i hn
    cases hc:cleanL c.H0 σ [id2]&&!inHeap id2 σ.heap&&!Nat.beq id id2 with
    | false=>rw [hc] at h;exact h.elim
    | true =>
     rw [hc] at h
     simp only [Bool.and_eq_true,Bool.not_eq_true'] at hc
     refine ⟨_,_,h,hR.accC hf hn (cleanL_inv hc.1.1 id2 List.mem_cons_self) fun e=>?_⟩
     have hj:=hc.2
     rw [e,Nat.beq_refl] at hj;cases hj
   ·rename_i j k' lo n hn
    cases hj:Nat.beq j id2 with
    | true=>rw [hj] at h;exact ⟨g,σ,h,hR⟩
    | false =>
     rw [hj] at h
     simp only [cond_false] at h
     cases hc:cleanL c.H0 σ [id2]&&!inHeap id2 σ.heap&&inHeap j σ.heap with
     | false=>rw [hc] at h;exact h.elim
     | true =>
      rw [hc] at h
      simp only [Bool.and_eq_true,Bool.not_eq_true'] at hc
      refine ⟨_,_,h,hR.ren (fun e=>?_) (cleanL_inv hc.1.1 id2 List.mem_cons_self) hc.1.2⟩
      rw [e,Nat.beq_refl] at hj;cases hj
   ·exact h.elim
  ·exact h.elim
 | accC id off id2 k ty =>
  simp only [stepNote] at h
  split at h
  ·rename_i cs t hf
   split at h
   ·rename_i hn
    cases hc:cleanL c.H0 σ [id2]&&!inHeap id2 σ.heap&&!Nat.beq id id2 with
    | false=>rw [hc] at h;exact h.elim
    | true =>
     rw [hc] at h
     simp only [Bool.and_eq_true,Bool.not_eq_true'] at hc
     refine ⟨_,_,h,hR.accC hf hn (cleanL_inv hc.1.1 id2 List.mem_cons_self) fun e=>?_⟩
     have hj:=hc.2
     rw [e,Nat.beq_refl] at hj;cases hj
   ·exact h.elim
  ·exact h.elim
 | fact s =>
  refine ⟨g,σ,h ?_,hR⟩
  rw [get_find]
  cases hf:find s σ.env with
  | none=>simp [V.fact]
  | some x=>exact (hR.env s x hf).2.fact
 | ren j id =>
  simp only [stepNote] at h
  cases hc:cleanL c.H0 σ [id]&&!inHeap id σ.heap&&!Nat.beq j id with
  | false=>rw [hc] at h;exact h.elim
  | true =>
   rw [hc] at h
   simp only [Bool.and_eq_true,Bool.not_eq_true'] at hc
   refine ⟨_,_,h,hR.ren (fun e=>?_) (cleanL_inv hc.1.1 id List.mem_cons_self) hc.1.2⟩
   have hj:=hc.2
   rw [e,Nat.beq_refl] at hj;cases hj
 | nl s =>
  simp only [stepNote] at h
  split at h
  case h_2=>exact h.elim
  rename_i x hx
  refine ⟨g,_,h,⟨hR.size,hR.dfr,fun t y hy=>?_,hR.hp,hR.fr⟩⟩
  simp only [find_put] at hy
  obtain ⟨h1,h2⟩:=hR.env s x hx
  by_cases e:t=s
  ·subst e;simp at hy;subst hy;exact ⟨h1,h2.unnil⟩
  ·simp only [e,if_false] at hy;exact hR.env t y hy
 | renq j id =>
  simp only [stepNote] at h
  cases hj:inHeap j σ.heap with
  | false=>rw [hj] at h;exact ⟨_,_,h,hR⟩
  | true =>
   rw [hj] at h
   simp only [cond_true] at h
   cases hc:cleanL c.H0 σ [id]&&!inHeap id σ.heap&&!Nat.beq j id with
   | false=>rw [hc] at h;exact h.elim
   | true =>
    rw [hc] at h
    simp only [Bool.and_eq_true,Bool.not_eq_true'] at hc
    refine ⟨_,_,h,hR.ren (fun e=>?_) (cleanL_inv hc.1.1 id List.mem_cons_self) hc.1.2⟩
    have hj:=hc.2
    rw [e,Nat.beq_refl] at hj;cases hj
 | shq id =>
  simp only [stepNote] at h
  split at h
  ·rename_i k xs hf
   exact ⟨_,_,h.2.2,hR.shut hf h.1 h.2.1⟩
  ·rename_i kd es hf
   exact ⟨_,_,h,hR.shm hf (.rd (map_sealed (hR.hp.obj _ _ hf)))⟩
  ·rename_i z k kd es hf
   exact ⟨_,_,h,hR.shm hf (nmap_sealed (hR.hp.obj _ _ hf))⟩
  ·exact ⟨_,_,h,hR⟩
  ·exact h.elim
 | shut id =>
  simp only [stepNote] at h
  split at h
  ·rename_i k xs hf
   exact ⟨_,_,h.2.2,hR.shut hf h.1 h.2.1⟩
  ·rename_i kd es hf
   exact ⟨_,_,h,hR.shm hf (.rd (map_sealed (hR.hp.obj _ _ hf)))⟩
  ·rename_i z k kd es hf
   exact ⟨_,_,h,hR.shm hf (nmap_sealed (hR.hp.obj _ _ hf))⟩
  ·exact h.elim
 | accA s off id k =>
  simp only [stepNote] at h
  split at h
  ·rename_i cs hf
   split at h
   ·rename_i hn
    cases hc:cleanL c.H0 σ [id]&&!inHeap id σ.heap with
    | false=>rw [hc] at h;exact h.elim
    | true =>
     rw [hc] at h
     simp only [cond_true] at h
     simp only [Bool.and_eq_true,Bool.not_eq_true'] at hc
     have hcl:=cleanL_inv hc.1 id List.mem_cons_self
     obtain ⟨hlt,hv⟩:=hR.env s _ hf
     have hst:=StepOK.newNil (g:=g) (w:=w) (V.agg (cs.set off (.osl id k 0 0))) id k [] none hR.hp
     have hfr:Fresh c.H0 g (g.setNil id) σ ⟨.agg (cs.set off (.osl id k 0 0)),[],[(id,.arr k [])]⟩:=Fresh.of_clean hcl
     have hv':VR (g.setNil id) w (a.tmps.getD s undef) (.agg (cs.set off (.osl id k 0 0))):=by
      have hne:=noEnv_find hcl.2.1 hf
      have h2:VR (g.setNil id) w (a.tmps.getD s undef) (.agg cs):=VR.mono (g:=g) (g':=g.setNil id) (w:=w) (w':=w) (fun _ _=>rfl) (fun _ h=>h) hv fun i (hi:V.has i (.agg cs)=true)=>Gh.setNil_agree (g:=g) (n:=id) fun e=>by rw [e] at hi;rw [hne] at hi;cases hi
      obtain ⟨vs,e1,e2,e3⟩:=h2.agg_inv
      rw [e1]
      refine .agg vs _ (by rw [List.length_set];exact e2) fun j x hj=>?_
      rw [List.getElem?_set] at hj
      by_cases e4:off=j
      ·subst e4
       have hlo:off<cs.length:=(List.getElem?_eq_some_iff.1 hn).1
       simp [hlo] at hj;subst hj
       rw [(e3 off _ hn).nils_inv];exact .oslnil id k 0 (.inl rfl)
      ·rw [if_neg e4] at hj;exact e3 j x hj
     have:=hR.step (d:=some s) (fun n hn=>by cases hn;exact hlt) hst hfr hv'
     refine ⟨g.setNil id,_,h,?_⟩
     have e:a.put (some s) (a.tmps.getD s undef)=a:=by
      have hlt':s<a.tmps.size:=by rw [hR.size];exact hlt
      have e1:a.tmps.setIfInBounds s (a.tmps.getD s undef)=a.tmps:=by
       refine Array.ext (by simp) fun i h1 h2=>?_
       rw [Array.getElem_setIfInBounds]
       ·by_cases e:s=i
        ·subst e;simp [hlt']
        ·simp [e]
       ·exact h2
      simp only [Act.put,e1]
     rw [e] at this
     exact this
   ·rename_i j k' lo n hs
    cases hj:Nat.beq j id with
    | true=>rw [hj] at h;exact ⟨g,σ,h,hR⟩
    | false =>
     rw [hj] at h
     simp only [cond_false] at h
     cases hc:cleanL c.H0 σ [id]&&!inHeap id σ.heap&&inHeap j σ.heap with
     | false=>rw [hc] at h;exact h.elim
     | true =>
      rw [hc] at h
      simp only [Bool.and_eq_true,Bool.not_eq_true'] at hc
      refine ⟨_,_,h,hR.ren (fun e=>?_) (cleanL_inv hc.1.1 id List.mem_cons_self) hc.1.2⟩
      rw [e,Nat.beq_refl] at hj;cases hj
   ·exact h.elim
  ·exact h.elim
 | acc s id k =>
  simp only [stepNote] at h
  split at h
  ·rename_i hs
   cases hc:cleanL c.H0 σ [id]&&!inHeap id σ.heap with
   | false=>rw [hc] at h;exact h.elim
   | true =>
    rw [hc] at h
    simp only [cond_true] at h
    simp only [Bool.and_eq_true,Bool.not_eq_true'] at hc
    have hcl:=cleanL_inv hc.1 id List.mem_cons_self
    have hf:find s σ.env=some .nils:=by
     rw [get_find] at hs
     cases hf:find s σ.env with
     | none=>rw [hf] at hs;cases hs
     | some x=>rw [hf] at hs;simp at hs;rw [hs]
    obtain ⟨hlt,hv⟩:=hR.env s _ hf
    have hst:=StepOK.newNil (g:=g) (w:=w) (V.osl id k 0 0) id k [] none hR.hp
    have hfr:Fresh c.H0 g (g.setNil id) σ ⟨.osl id k 0 0,[],[(id,.arr k [])]⟩:=Fresh.of_clean hcl
    have hv':VR (g.setNil id) w (a.tmps.getD s undef) (.osl id k 0 0):=by
     rw [hv.nils_inv];exact .oslnil id k 0 (.inl rfl)
    have:=hR.step (d:=some s) (fun n hn=>by cases hn;exact hlt) hst hfr hv'
    refine ⟨g.setNil id,_,h,?_⟩
    have e:a.put (some s) (a.tmps.getD s undef)=a:=by
     have hlt':s<a.tmps.size:=by rw [hR.size];exact hlt
     have e1:a.tmps.setIfInBounds s (a.tmps.getD s undef)=a.tmps:=by
      refine Array.ext (by simp) fun i h1 h2=>?_
      rw [Array.getElem_setIfInBounds]
      ·by_cases e:s=i
       ·subst e;simp [hlt']
       ·simp [e]
      ·exact h2
     simp only [Act.put,e1]
    rw [e] at this
    exact this
  ·rename_i j k' lo n hs
   cases hj:Nat.beq j id with
   | true=>rw [hj] at h;exact ⟨g,σ,h,hR⟩
   | false =>
    rw [hj] at h
    simp only [cond_false] at h
    cases hc:cleanL c.H0 σ [id]&&!inHeap id σ.heap&&inHeap j σ.heap with
    | false=>rw [hc] at h;exact h.elim
    | true =>
     rw [hc] at h
     simp only [Bool.and_eq_true,Bool.not_eq_true'] at hc
     refine ⟨_,_,h,hR.ren (fun e=>?_) (cleanL_inv hc.1.1 id List.mem_cons_self) hc.1.2⟩
     rw [e,Nat.beq_refl] at hj;cases hj
  ·exact h.elim
end
end Go.Ab
