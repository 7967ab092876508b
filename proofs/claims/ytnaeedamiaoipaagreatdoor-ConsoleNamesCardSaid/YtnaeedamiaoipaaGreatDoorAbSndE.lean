/- The abstract layer, part 9: structs and slices made of parts, made slices, bytes of strings. -/
import Derived.Test.YtnaeedamiaoipaaGreatDoorAbSndD
set_option linter.all false
namespace Go.Ab
open Go.RowKit
section
variable {P:Program} {o:Oper} {c:Ctx} {g:Gh} {σ:St} {a:Act} {w:World} {ob:Nat→Option Obj'} {K L:Eff→Prop} {K':Act→World→Prop} {Q':Exit→Act→World→Prop}
theorem sizeIs_run {t:TypeId} {n:Nat} (h:sizeIs P t n=true):∀w':World,(Go.sizeOf t).run P w'=.ok n w':=by
 unfold sizeIs at h
 split at h<;>try (cases h;done)
 rename_i i hi
 intro w'
 have:i.size=n:=by simpa using h
 simp [Go.sizeOf,typeInfo,hi,this]
theorem run_places:∀(fs:List Field),(fs.all fun f=>(P.info? f.type).isSome)=true→∃ps:List (Nat×Nat),(fs.mapM (fun f=>do pure (f.offset,←Go.sizeOf f.type)):Sem (List (Nat×Nat))).run P w=.ok ps w ∧
  ps.length=fs.length∧∀(i:Nat) (f:Field),fs[i]?=some f→∃inf,P.info? f.type=some inf∧ps[i]?=some (f.offset,inf.size)
 | [],_=>⟨[],rfl,rfl,fun i f h=>by simp at h⟩
 | f::fs,h=>by
  simp only [List.all_cons,Bool.and_eq_true] at h
  obtain ⟨ps,h1,h2,h3⟩:=run_places fs h.2
  obtain ⟨inf,hinf⟩:=Option.isSome_iff_exists.1 h.1
  refine ⟨(f.offset,inf.size)::ps,?_,by simp [h2],fun i q hq=>?_⟩
  ·simp only [List.mapM_cons,Sem.run_bind,Go.sizeOf,typeInfo,run_program,Result.andThen_ok,hinf,Sem.run_pure]
   simp only [Go.sizeOf,typeInfo] at h1
   rw [h1]
   rfl
  ·cases i with
   | zero=>simp at hq;subst hq;exact ⟨inf,hinf,rfl⟩
   | succ i=>simp at hq ⊢;exact h3 i q hq
theorem partsOK_inv {fs:Array Field}:∀{ps:List (Nat×Nat×Opd)} {qs:List (Nat×Operand)},partsOK P fs ps qs=true→ps.length=qs.length ∧
  ∀(i:Nat) (p:Nat×Nat×Opd) (q:Nat×Operand),ps[i]?=some p→qs[i]?=some q→(∃f inf,fs[q.1]?=some f∧f.offset=p.1∧P.info? f.type=some inf∧inf.size=p.2.1)∧p.2.2.ok q.2=true
 | [],[],_=>⟨rfl,fun i p q h=>by simp at h⟩
 | [],_::_,h=>by simp [partsOK] at h
 | _::_,[],h=>by simp [partsOK] at h
 | (off,n,x)::ps,(j,y)::qs,h=>by
  simp only [partsOK,Bool.and_eq_true] at h
  obtain ⟨⟨h1,h2⟩,h3⟩:=h
  obtain ⟨l,r⟩:=partsOK_inv h3
  refine ⟨by simp [l],fun i p q hp hq=>?_⟩
  cases i with
  | zero =>
   simp at hp hq;subst hp;subst hq
   refine ⟨?_,h2⟩
   split at h1<;>try (cases h1;done)
   rename_i f hf
   simp only [Bool.and_eq_true] at h1
   obtain ⟨h4,h5⟩:=h1
   unfold sizeIs at h5
   split at h5<;>try (cases h5;done)
   rename_i inf hinf
   exact ⟨f,inf,hf,by simpa using h4,hinf,by simpa using h5⟩
  | succ i=>simp only [List.getElem?_cons_succ] at hp hq;exact r i p q hp hq
theorem s_build {zs:List V} {ps:List (Nat×Nat×Opd)} (hok:(MIns.build zs ps).ok P o.op=true) (hR:Rel P c g σ a w) {d:Nat} (h:stepV P (.build zs ps) d (ps.map fun p=>p.2.2.ev σ.env) ob K L) (hF:Fin o c g σ a w K L K'):o.wp P a w K' Q':=by
 have:∃t parts fs,o.op=.build t parts∧zeroOK P t zs=true∧P.underlying t=some (.struct fs)∧(fs.toList.all fun f=>(P.info? f.type).isSome)=true∧partsOK P fs ps parts.toList=true:=by
  cases ho:o.op<;>rw [ho] at hok<;>try (simp [MIns.ok] at hok;done)
  rename_i t parts
  simp only [MIns.ok,Bool.and_eq_true] at hok
  obtain ⟨h1,h2⟩:=hok
  split at h2<;>try (cases h2;done)
  rename_i fs hu
  simp only [Bool.and_eq_true] at h2
  exact ⟨t,parts,fs,rfl,h1,hu,by simpa using h2.1,h2.2⟩
 obtain ⟨t,parts,fs,ho,hz,hu,hall,hp⟩:=this
 obtain ⟨z,hzr,hzl,hzv⟩:=zero_of hz
 obtain ⟨pls,hpr,hpl,hpv⟩:=run_places (P:=P) (w:=w) fs.toList hall
 obtain ⟨hlen,hparts⟩:=partsOK_inv hp
 simp only [stepV] at h
 split at h
 ·rename_i cs hfill
  have e1:(ps.zip (ps.map fun p=>p.2.2.ev σ.env)).map (fun p=>(p.1.1,p.1.2.1,p.2))=ps.map fun p=>(p.1,p.2.1,p.2.2.ev σ.env):=by
   clear hfill hp hlen hparts hok h
   induction ps with
   | nil=>rfl
   | cons p ps ih=>simp [ih]
  rw [e1] at hfill
  obtain ⟨cells',r1,r2,r3⟩:=fill_fillV (g:=g) (w0:=w) (pls.toArray[·]?) (parts.toList.map fun q=>(q.1,a.eval q.2)) (ps.map fun p=>(p.1,p.2.1,p.2.2.ev σ.env)) z.cells zs cs (by simp [hlen])
   (fun i pt q hi hq=>by
    rw [List.getElem?_map] at hi hq
    cases hpi:parts.toList[i]? with
    | none=>rw [hpi] at hi;cases hi
    | some p0 =>
     cases hqi:ps[i]? with
     | none=>rw [hqi] at hq;cases hq
     | some q0 =>
      rw [hpi] at hi;rw [hqi] at hq
      simp at hi hq;subst hi;subst hq
      obtain ⟨⟨f,inf,k1,k2,k3,k4⟩,k5⟩:=hparts i q0 p0 hqi hpi
      obtain ⟨inf',m1,m2⟩:=hpv p0.1 f (by simpa using k1)
      rw [k3] at m1;cases m1
      refine ⟨?_,Opd.vr hR k5⟩
      simp [m2,k2,k4])
   hzl (fun i x hx=>.rd (hzv g.S w i x hx).1) hfill
  have hbuild:(Instr.build t (parts.map fun (i,x)=>(i,a.eval x))).run P w=.ok (.agg cells') w:=by
   simp only [Instr.build,Sem.run_bind,hzr w,Result.andThen_ok,run_underlying hu]
   have hm:(fs.mapM (fun f=>do pure (f.offset,←Go.sizeOf f.type)):Sem (Array (Nat×Nat))).run P w=.ok pls.toArray w:=by
    rw [Array.mapM_eq_mapM_toList,Sem.run_map,hpr];rfl
   simp only [hm,Result.andThen_ok]
   have e2:(parts.map fun (i,x)=>(i,a.eval x)).toList=parts.toList.map fun q=>(q.1,a.eval q.2):=by simp
   rw [e2,r1]
   rfl
  refine fin_val hR hF (v:=.agg cells') ?_ (.inl h) (.agg _ _ r2 r3)
  simp only [execOp,ho]
  exact exec_v hbuild
 ·exact h.elim
theorem flat_get {k:Nat}:∀{xs:List V},(∀x∈xs,x.cells.length=k)→∀(i j:Nat) (x c:V),xs[i]?=some x→x.cells[j]?=some c→(xs.flatMap V.cells)[i*k+j]?=some c
 | [],_,i,j,x,c,hi,_=>by simp at hi
 | y::xs,h,i,j,x,c,hi,hj=>by
  have hy:=h y List.mem_cons_self
  rw [List.flatMap_cons]
  cases i with
  | zero =>
   simp at hi;subst hi
   have:j<y.cells.length:=(List.getElem?_eq_some_iff.1 hj).1
   rw [Nat.zero_mul,Nat.zero_add,List.getElem?_append_left this];exact hj
  | succ i =>
   simp only [List.getElem?_cons_succ] at hi
   have ih:=flat_get (fun x hx=>h x (List.mem_cons_of_mem _ hx)) i j x c hi hj
   rw [List.getElem?_append_right (by rw [hy,Nat.add_mul,Nat.one_mul];omega),hy,show (i+1)*k+j - k=i*k+j by rw [Nat.add_mul,Nat.one_mul];omega]
   exact ih
theorem flat_len {k:Nat}:∀{xs:List V},(∀x∈xs,x.cells.length=k)→(xs.flatMap V.cells).length=xs.length*k
 | [],_=>by simp
 | y::xs,h=>by
  rw [List.flatMap_cons,List.length_append,h y List.mem_cons_self,flat_len (fun x hx=>h x (List.mem_cons_of_mem _ hx)),List.length_cons,Nat.add_mul,Nat.one_mul];omega
def idxParts (k:Nat):Nat→List V→List (Nat×Nat×V)
 | _,[]=>[]
 | i,x::xs=>(i*k,k,x)::idxParts k (i+1) xs
theorem fill_flat {k:Nat}:∀(xs:List V) (i:Nat) (pre:List V),pre.length=i*k→(∀x∈xs,x.cells.length=k∧x.nany=true) →
  fillV (pre++List.replicate (xs.length*k) .any) (idxParts k i xs)=some (pre++xs.flatMap V.cells)
 | [],i,pre,_,_=>by simp [idxParts,fillV]
 | x::xs,i,pre,hl,h=>by
  obtain ⟨h1,h2⟩:=h x List.mem_cons_self
  have ih:=fill_flat xs (i+1) (pre++x.cells) (by rw [List.length_append,hl,h1,Nat.add_mul,Nat.one_mul]) (fun y hy=>h y (List.mem_cons_of_mem _ hy))
  have hle:i*k+k≤(pre++List.replicate ((x::xs).length*k) V.any).length:=by
   simp [hl,Nat.add_mul]
  have hb:(x.nany&&Nat.beq x.cells.length k&&Nat.ble (i*k+k) (pre++List.replicate ((x::xs).length*k) V.any).length)=true:=by
   simp only [Bool.and_eq_true]
   exact ⟨⟨h2,by simpa using h1⟩,by simpa using hle⟩
  simp only [idxParts,fillV,hb,cond_true]
  have e:setCells (pre++List.replicate ((x::xs).length*k) V.any) (i*k) x.cells=(pre++x.cells)++List.replicate (xs.length*k) V.any:=by
   unfold setCells
   rw [←hl,List.take_left' rfl,List.drop_append,hl,h1]
   have e2:List.drop (i*k+k) pre=[]:=List.drop_eq_nil_of_le (by omega)
   have e3:i*k+k - i*k=k:=by omega
   rw [e2,e3,List.drop_replicate,List.length_cons,Nat.add_mul,Nat.one_mul,Nat.add_sub_cancel]
   simp
  rw [e,ih,List.flatMap_cons,List.append_assoc]
theorem okElem_inv {k:Nat} {x:V} (h:okElem k x=true):x.cells.length=k∧(∀c∈x.cells,c.one=true)∧x.sealed=true:=by
 simp only [okElem,Bool.and_eq_true,List.all_eq_true] at h
 exact ⟨by simpa using h.1.1,h.1.2,h.2⟩
theorem sealed_sc {x c:V} (h:x.sealed=true) (hc:c∈x.cells):c.sc=true:=by
 cases x with
 | agg cs=>simp only [V.sealed,List.all_eq_true] at h;exact h c hc
 | _=>simp [V.cells] at hc;subst hc;simpa [V.sealed] using h
theorem one_nany {x:V} (h:∀c∈x.cells,c.one=true):x.nany=true:=by
 cases x with
 | any=>exact absurd (h .any (by simp [V.cells])) (by simp [V.one])
 | at_ a b=>exact absurd (h (.at_ a b) (by simp [V.cells])) (by simp [V.one])
 | _=>rfl
theorem fin_row (hR:Rel P c g σ a w) (hF:Fin o c g σ a w K L K') {d:Nat} (hcl:Clean c σ d) {cur:Array Value} {e:TypeId} {fz:Nat×Nat} {k cap:Nat} {xs:List V} {w':World}
  (hkp:0<k) (hsz:cur.size=cap*k) {tg:Option TypeId} (htg:tyOK tg e fz) (hfz:unfrozen fz cur.size) (hle:xs.length≤cap) (hm:cap≤maxLen) (hel:∀x∈xs,x.cells.length=k∧(∀c∈x.cells,c.one=true)∧x.sealed=true)
  (hv:∀(i j:Nat) (x y:V),xs[i]?=some x→x.cells[j]?=some y→Rd g.S w (cur.getD (i*k+j) undef) y)
  (h1:w'.os=w.os) (h2:w'.tape=w.tape) (h3:w'.output=w.output) (h4:w'.heap=w.heap.push (.cells cur e fz)) {n:Nat} (hn:n=xs.length)
  (hrun:(execOp a.eval o).run P w=.ok (.value (.slice (some ⟨w.heap.size,0,none⟩) n cap)) w')
  (hk:K ⟨.osl d k 0 n,[],[(d,.arr k xs tg)]⟩∨L ⟨.osl d k 0 n,[],[(d,.arr k xs tg)]⟩):o.wp P a w K' Q':=by
 unfold Oper.wp
 rw [hrun]
 have hkeep:Keep g.S w w':=Keep.push hR.hp.lt h4
 have e1:(g.set d w.heap.size 0 cap).ρ d=w.heap.size:=by simp [Gh.set]
 have e2:(g.set d w.heap.size 0 cap).base d=0:=by simp [Gh.set]
 have e3:(g.set d w.heap.size 0 cap).cap d=cap:=by simp [Gh.set]
 have e4:¬(g.set d w.heap.size 0 cap).nil d:=by simp [Gh.set]
 refine hF _ hk (g.set d w.heap.size 0 cap) _ _ (StepOK.alloc _ d 0 cap _ (.cells cur e fz) hR.hp.lt h1 h2 h3 h4 ?_) (Fresh.of_clean hcl) ?_
 ·refine .inr ⟨e4,?_⟩
  rw [e1,e2,e3]
  refine ⟨hkp,⟨cur,e,fz,by rw [h4];simp,by rw [hsz,Nat.zero_add],⟨hfz,htg⟩,fun i j x y hx hy=>?_⟩,hle,by omega,hel⟩
  rw [Nat.zero_add]
  exact (hv i j x y hx hy).mono hkeep fun _ h=>h
 ·have:=VR.osl (g:=g.set d w.heap.size 0 cap) (w:=w') d k 0 n 0 cap e4 (.inr (by rw [e2];simp)) (by rw [e3];omega) (by omega) hm
  rw [e1] at this
  exact this
theorem elsOK_inv:∀{n:Nat} {xs:List Opd} {qs:List (Nat×Operand)},elsOK n xs qs=true→xs.length=qs.length∧∀(i:Nat) (x:Opd) (q:Nat×Operand),xs[i]?=some x→qs[i]?=some q→q.1=n+i∧x.ok q.2=true
 | _,[],[],_=>⟨rfl,fun i x q h=>by simp at h⟩
 | _,[],_::_,h=>by simp [elsOK] at h
 | _,_::_,[],h=>by simp [elsOK] at h
 | n,x::xs,(j,y)::qs,h=>by
  simp only [elsOK,Bool.and_eq_true] at h
  obtain ⟨⟨h1,h2⟩,h3⟩:=h
  obtain ⟨l,r⟩:=elsOK_inv h3
  refine ⟨by simp [l],fun i p q hp hq=>?_⟩
  cases i with
  | zero=>simp at hp hq;subst hp;subst hq;exact ⟨by simpa using h1,h2⟩
  | succ i =>
   simp only [List.getElem?_cons_succ] at hp hq
   obtain ⟨r1,r2⟩:=r i p q hp hq
   exact ⟨by omega,r2⟩
theorem idxParts_get {k:Nat}:∀{xs:List V} {n:Nat} (i:Nat) (q:Nat×Nat×V),(idxParts k n xs)[i]?=some q→∃x,xs[i]?=some x∧q=((n+i)*k,k,x)
 | [],n,i,q,h=>by simp [idxParts] at h
 | x::xs,n,i,q,h=>by
  cases i with
  | zero=>simp [idxParts] at h;exact ⟨x,rfl,by simp [←h]⟩
  | succ i =>
   simp only [idxParts,List.getElem?_cons_succ] at h
   obtain ⟨y,h1,h2⟩:=idxParts_get i q h
   exact ⟨y,by simpa using h1,by rw [h2,show n+1+i=n+(i+1) by omega]⟩
theorem idxParts_len {k:Nat}:∀{xs:List V} {n:Nat},(idxParts k n xs).length=xs.length
 | [],_=>rfl
 | x::xs,n=>by simp [idxParts,idxParts_len]
theorem s_bslice {k:Nat} {xs:List Opd} {uv:Bool} (hok:(MIns.bslice k xs uv).ok P o.op=true) (hR:Rel P c g σ a w) {d:Nat} (hcl:Clean c σ d) (h:stepV P (.bslice k xs uv) d (xs.map (·.ev σ.env)) ob K L) (hF:Fin o c g σ a w K L K'):o.wp P a w K' Q':=by
 have:∃t parts e inf,o.op=.buildSlice t xs.length parts∧P.underlying t=some (.slice e)∧P.info? e=some inf∧inf.size=k∧inf.zero.isSome=true∧0<k∧xs.length*k≤16777216∧elsOK 0 xs parts.toList=true:=by
  cases ho:o.op<;>rw [ho] at hok<;>try (simp [MIns.ok] at hok;done)
  rename_i t n parts
  simp only [MIns.ok,Bool.and_eq_true,decide_eq_true_eq] at hok
  obtain ⟨⟨⟨⟨h1,h2⟩,h3⟩,h4⟩,h5⟩:=hok
  split at h1<;>try (cases h1;done)
  rename_i e hu
  simp only [Bool.and_eq_true] at h1
  obtain ⟨h6,h7⟩:=h1
  split at h7<;>try (cases h7;done)
  rename_i inf hinf
  have hn:n=xs.length:=by simpa using h3
  subst hn
  refine ⟨t,parts,e,inf,rfl,hu,hinf,?_,h7,by simpa [Nat.blt_eq] using h2,h4,h5⟩
  simp only [sizeIs,hinf] at h6
  simpa using h6
 obtain ⟨t,parts,e,inf,ho,hu,hinf,hsz,hzs,hkp,hbig,hels⟩:=this
 obtain ⟨z,hz⟩:=Option.isSome_iff_exists.1 hzs
 obtain ⟨hlen,hparts⟩:=elsOK_inv hels
 have hk:(xs.map (·.ev σ.env)).all (okElem k)=true∧K ⟨.osl d k 0 (xs.map (·.ev σ.env)).length,[],[(d,.arr k (xs.map (·.ev σ.env)) (uvT uv))]⟩:=by
  unfold stepV at h
  by_cases hb:(xs.map (·.ev σ.env)).all (okElem k)=true
  ·simp only [hb,cond_true] at h;exact ⟨hb,h⟩
  ·simp [hb] at h
 obtain ⟨hall,hk⟩:=hk
 generalize hvs:xs.map (·.ev σ.env)=vs at *
 have hvl:vs.length=xs.length:=by rw [←hvs];simp
 have hel:∀x∈vs,x.cells.length=k∧(∀c∈x.cells,c.one=true)∧x.sealed=true:=fun x hx=>okElem_inv (List.all_eq_true.1 hall x hx)
 obtain ⟨cells0,hc0,hc1⟩:∃cells0:Array Value,cells0.size=vs.length*k ∧
   (Instr.buildSlice t xs.length (parts.map fun (i,x)=>(i,a.eval x))).run P w =
    (match Instr.fill (fun i=>some (i*k,k)) cells0 (parts.toList.map fun q=>(q.1,a.eval q.2)) with
     | some cells=>.ok (.slice (some ⟨w.heap.size,0,none⟩) xs.length xs.length) (w.alloc (.cells cells e))
     | none=>.halt (.stuck "buildSlice: a part of the wrong size") w):=by
  have e2:(parts.map fun (i,x)=>(i,a.eval x)).toList=parts.toList.map fun q=>(q.1,a.eval q.2):=by simp
  have hnb:¬(xs.length*k > 2^24):=by omega
  have main:∀zc:Array Value,(zc=if xs.length*k=0 then #[] else z.cells)→(Instr.buildSlice t xs.length (parts.map fun (i,x)=>(i,a.eval x))).run P w =
    (match Instr.fill (fun i=>some (i*k,k)) ((Array.range (xs.length*k)).map (zc[· % zc.size]!)) (parts.toList.map fun q=>(q.1,a.eval q.2)) with
     | some cells=>.ok (.slice (some ⟨w.heap.size,0,none⟩) xs.length xs.length) (w.alloc (.cells cells e))
     | none=>.halt (.stuck "buildSlice: a part of the wrong size") w):=by
   intro zc hzc
   simp only [Instr.buildSlice,Sem.run_bind,run_underlying hu,Result.andThen_ok,Go.sizeOf,typeInfo,run_program,hinf,Sem.run_pure,hsz,hnb,if_false]
   by_cases hzero:xs.length*k=0
   ·rw [if_pos hzero] at hzc ⊢
    subst hzc
    simp only [Sem.run_bind,Sem.run_pure,Result.andThen_ok,e2]
    cases hf:Instr.fill (fun i=>some (i*k,k)) ((Array.range (xs.length*k)).map ((#[]:Array Value)[· % (#[]:Array Value).size]!)) (parts.toList.map fun q=>(q.1,a.eval q.2)) with
    | none=>simp
    | some cells=>simp [newRow]
   ·rw [if_neg hzero] at hzc ⊢
    subst hzc
    have hzr:(zeroValue e).run P w=.ok z w:=by simp [zeroValue,typeInfo,hinf,hz]
    simp only [Sem.run_bind,hzr,Sem.run_pure,Result.andThen_ok,e2]
    cases hf:Instr.fill (fun i=>some (i*k,k)) ((Array.range (xs.length*k)).map (z.cells[· % z.cells.size]!)) (parts.toList.map fun q=>(q.1,a.eval q.2)) with
    | none=>simp
    | some cells=>simp [newRow]
  exact ⟨_,by simp [hvl],main _ rfl⟩
 obtain ⟨cells',r1,r2,r3⟩:=fill_fillV (g:=g) (w0:=w) (fun i=>some (i*k,k)) (parts.toList.map fun q=>(q.1,a.eval q.2)) (idxParts k 0 vs) cells0 (List.replicate (vs.length*k) .any) (vs.flatMap V.cells)
  (by rw [idxParts_len];simp;rw [hvl,hlen];simp) (fun i pt q hi hq=>by
   obtain ⟨x,hx,rfl⟩:=idxParts_get i q hq
   rw [List.getElem?_map] at hi
   cases hpi:parts.toList[i]? with
   | none=>rw [hpi] at hi;cases hi
   | some p0 =>
    rw [hpi] at hi;simp at hi;subst hi
    rw [←hvs,List.getElem?_map] at hx
    cases hxi:xs[i]? with
    | none=>rw [hxi] at hx;cases hx
    | some x0 =>
     rw [hxi] at hx;simp at hx;subst hx
     obtain ⟨m1,m2⟩:=hparts i x0 p0 hxi hpi
     exact ⟨by simp [m1],Opd.vr hR m2⟩)
  (by simp [hc0]) (fun i x hx=>by
   rw [List.getElem?_replicate] at hx
   split at hx
   ·cases hx;exact .any _
   ·cases hx) (by have:=fill_flat (k:=k) vs 0 [] (by simp) (fun x hx=>⟨(hel x hx).1,one_nany (hel x hx).2.1⟩);simpa using this)
 rw [r1] at hc1
 refine fin_row hR hF hcl (cur:=cells') (e:=e) (fz:=(0,0)) (k:=k) (cap:=vs.length) (xs:=vs) (w':=w.alloc (.cells cells' e)) hkp ?_ (tg:=uvT uv) (by cases uv<;>first|trivial|rfl) (unfrozen_zero _) (Nat.le_refl _) ?_ hel (fun i j x y hx hy=>?_) rfl rfl rfl rfl rfl ?_ (.inl hk)
 ·rw [r2,flat_len (fun x hx=>(hel x hx).1)]
 ·have:vs.length≤16777216:=by
   rw [hvl]
   exact Nat.le_trans (Nat.le_mul_of_pos_right _ hkp) hbig
  rw [maxLen];omega
 ·have hf:=flat_get (k:=k) (fun x hx=>(hel x hx).1) i j x y hx hy
  refine (r3 _ y hf).sc_rd (sealed_sc (hel x (List.mem_of_getElem? hx)).2.2 (List.mem_of_getElem? hy))
 ·simp only [execOp,ho]
  rw [hvl]
  exact exec_v hc1
theorem sliceElem_inv {t:TypeId} {k bytes:Nat} (h:sliceElem P t k bytes=true):∃e i z,P.underlying t=some (.slice e)∧P.info? e=some i∧i.zero=some z∧i.size=k∧i.bytes=bytes∧0<k∧0<bytes∧z.cells.size=k:=by
 unfold sliceElem at h
 split at h<;>try (cases h;done)
 rename_i e hu
 split at h<;>try (cases h;done)
 rename_i i hi
 simp only [Bool.and_eq_true] at h
 obtain ⟨⟨⟨⟨h1,h2⟩,h3⟩,h5⟩,h4⟩:=h
 split at h4<;>try (cases h4;done)
 rename_i z hz
 exact ⟨e,i,z,hu,hi,hz,by simpa using h1,by simpa using h2,by simpa [Nat.blt_eq] using h3,by simpa [Nat.blt_eq] using h5,by simpa using h4⟩
theorem s_mksl {k bytes:Nat} {z:V} {x y:Opd} (hok:(MIns.mksl k bytes z x y).ok P o.op=true) (hR:Rel P c g σ a w) {d:Nat} (hcl:Clean c σ d) (h:stepV P (.mksl k bytes z x y) d [x.ev σ.env,y.ev σ.env] ob K L) (hF:Fin o c g σ a w K L K'):o.wp P a w K' Q':=by
 have:∃t x' y',o.op=.makeSlice t x' y'∧x.ok x'=true∧y.ok y'=true∧sliceElem P t k bytes=true∧sliceZero P t z=true∧okElem k z=true:=by
  cases ho:o.op<;>rw [ho] at hok<;>try (simp [MIns.ok] at hok;done)
  simp [MIns.ok] at hok
  exact ⟨_,_,_,rfl,hok.1.1.1.1,hok.1.1.1.2,hok.1.1.2,hok.1.2,hok.2⟩
 obtain ⟨t,x',y',ho,hx,hy,hs,hz,hoz⟩:=this
 obtain ⟨e,i,z0,hu,hi,hz0,hsz,hby,hkp,_,hzs⟩:=sliceElem_inv hs
 have vx:=Opd.vr hR hx
 have vy:=Opd.vr hR hy
 simp only [stepV,sMksl] at h
 split at h
 ·rename_i p q hp hq
  rw [hp] at vx;rw [hq] at vy
  obtain ⟨ex,rx⟩:=vx.int_inv
  obtain ⟨ey,ry⟩:=vy.int_inv
  obtain ⟨⟨h0,h1,h2⟩,hk⟩:=h
  rw [rng_iff] at rx ry
  simp only [rng] at rx ry
  have hrun:=run_make (P:=P) w t e i z0 hu hi hz0 .i64 .i64 p q h0 h1 (by rw [hby,Int.mul_comm];omega) ry.2
  obtain ⟨hel1,hel2,hel3⟩:=okElem_inv hoz
  have hzz:zeroOK P e z.cells=true:=by
   unfold sliceZero at hz;rw [hu] at hz;exact hz
  obtain ⟨z1,hz1,hz2,hz3⟩:=zero_of hzz
  have:z1=z0:=by
   have:=hz1 w
   simp [zeroValue,typeInfo,hi,hz0] at this
   exact this.symm
  subst this
  refine fin_row hR hF hcl (cur:=madeCells z1.cells (q.toNat*k)) (e:=e) (fz:=(0,0)) (k:=k) (cap:=q.toNat) (xs:=List.replicate p.toNat z) (w':=w.alloc (.cells (madeCells z1.cells (q.toNat*k)) e)) hkp (by simp [size_madeCells]) (tg:=none) trivial (unfrozen_zero _)
   (by simp;omega) (by rw [maxLen];omega) (fun x hx=>by rw [List.eq_of_mem_replicate hx];exact ⟨hel1,hel2,hel3⟩) (fun i' j u v hu' hv'=>?_) rfl rfl rfl rfl (n:=p.toNat) (by simp) ?_ (.inl hk)
  ·rw [List.getElem?_replicate] at hu'
   split at hu'<;>cases hu'
   rename_i hlt
   have hj:j<k:=by rw [←hel1];exact (List.getElem?_eq_some_iff.1 hv').1
   have hb:i'*k+j<q.toNat*k:=by
    have:(i'+1)*k≤q.toNat*k:=Nat.mul_le_mul_right _ (by omega)
    rw [Nat.add_mul,Nat.one_mul] at this;omega
   have e1:(madeCells z1.cells (q.toNat*k)).getD (i'*k+j) undef=z1.cells.getD j undef:=by
    have hm:(i'*k+j) % z1.cells.size=j:=by rw [hzs,Nat.mul_comm,Nat.mul_add_mod,Nat.mod_eq_of_lt hj]
    have hlt2:j<z1.cells.size:=by omega
    simp only [madeCells,Array.getD_eq_getD_getElem?]
    rw [Array.getElem?_map,Array.getElem?_range,if_pos hb]
    simp only [Option.map_some,Option.getD_some,hm]
    rw [getElem!_pos z1.cells j hlt2]
    simp [hlt2]
   rw [e1]
   exact (hz3 g.S w j v hv').1
  ·simp only [execOp,ho,ex,ey]
   have hrun':=hrun
   rw [hsz] at hrun'
   exact exec_v hrun'
 ·exact h.elim
theorem byteV_ok (s:List UInt8):∀x∈s.map byteV,x.cells.length=1∧(∀c∈x.cells,c.one=true)∧x.sealed=true:=by
 intro x hx
 obtain ⟨b,_,rfl⟩:=List.mem_map.1 hx
 refine ⟨rfl,fun c hc=>?_,rfl⟩
 simp [byteV,V.cells] at hc;subst hc;rfl
theorem byte_rd {S:Nat→Prop} {w':World} (b:UInt8):Rd S w' (.int .u8 b.toNat) (byteV b):=by
 refine .int _ _ ?_
 rw [rng_iff]
 have:=b.toNat_lt
 simp only [rng];omega
theorem s_s2b {x:Opd} (hok:(MIns.s2b x).ok P o.op=true) (hR:Rel P c g σ a w) {d:Nat} (hcl:Clean c σ d) (h:stepV P (.s2b x) d [x.ev σ.env] ob K L) (hF:Fin o c g σ a w K L K'):o.wp P a w K' Q':=by
 have:∃s dd y e,o.op=.convert s dd y∧x.ok y=true∧P.underlying s=some .string∧P.underlying dd=some (.slice e)∧P.underlying e=some (.int .u8):=by
  cases ho:o.op<;>rw [ho] at hok<;>try (simp [MIns.ok] at hok;done)
  rename_i s dd y
  simp only [MIns.ok,Bool.and_eq_true,isByteSlice] at hok
  obtain ⟨⟨h1,h2⟩,h3⟩:=hok
  split at h3<;>try (cases h3;done)
  rename_i e hu
  simp only [Bool.and_eq_true] at h3
  refine ⟨s,dd,y,e,rfl,h1,strT h2,hu,?_⟩
  have:=h3.1
  split at this<;>first|assumption|cases this
 obtain ⟨s,dd,y,e,ho,hx,hs,hd,he⟩:=this
 have vx:=Opd.vr hR hx
 simp only [stepV,sS2b] at h
 split at h
 ·rename_i t ht
  rw [ht] at vx
  obtain ⟨b,eb,hb,hm⟩:=vx.str_inv
  have hsz:b.size=t.length:=by rw [←hb,Array.length_toList];rfl
  obtain ⟨cap,hcap⟩:∃cap,cap=grownCap w b.size 0 e:=⟨_,rfl⟩
  have hge:b.size≤cap:=by rw [hcap];exact grownCap_ge w b.size 0 e
  have hcm:cap≤maxLen:=by rw [hcap];exact grownCap_le_maxLen w b.size 0 e hm
  obtain ⟨cells,hcells⟩:∃cells:Array Value,cells=(b.data.map fun b=>Value.int .u8 b.toNat)++Array.replicate (cap - b.size) (.int .u8 0):=⟨_,rfl⟩
  have hcs:cells.size=cap:=by
   rw [hcells]
   have:b.data.size=b.size:=rfl
   simp [this];omega
  obtain ⟨w1,hw1⟩:∃w1:World,w1={ w.drew with heap:=w.heap.push (.cells cells e (cap,cap+1)) }:=⟨_,rfl⟩
  have hrun:(execOp a.eval o).run P w=.ok (.value (.slice (some ⟨w.heap.size,0,none⟩) b.size cap)) w1:=by
   simp only [execOp,ho,eb]
   refine exec_v ?_
   simp only [convert,Sem.run_bind,run_underlying hs,run_underlying hd,run_underlying he,Result.andThen_ok]
   simp only [Conv.stringToBytes,Sem.run_bind,run_choose,Question.forced,Bool.false_eq_true,if_false,Result.andThen_ok]
   have hcut:(Question.appendCap b.size 0 e).cut (w.tape w.drawn (.appendCap b.size 0 e))=cap:=hcap.symm
   rw [hcut,←hcells]
   simp only [newRow,Sem.run_bind,run_newObj,Result.andThen_ok,Sem.run_pure,markStringish,run_shape]
   have hsh:World.shape? { ({ w with drawn:=w.drawn+1 }:World) with heap:=w.heap.push (.cells cells e) } w.heap.size=some (e,cap):=by
    simp [World.shape?,hcs]
   rw [hsh]
   simp only [run_freeze,Result.andThen_ok]
   have hfr:World.freeze { ({ w with drawn:=w.drawn+1 }:World) with heap:=w.heap.push (.cells cells e) } { block:=w.heap.size,off:=cap } 1=w1:=by
    rw [hw1]
    simp only [World.freeze,Nat.succ_ne_zero,if_false,World.drew]
    congr 1
    apply Array.ext
    ·simp
    ·intro i h1 h2
     rw [Array.getElem_modify]
     by_cases hi:w.heap.size=i
     ·subst hi;simp
     ·have:i<w.heap.size:=by simp at h2;omega
      simp [hi,Array.getElem_push_lt this]
   rw [hfr]
  have hk:K ⟨.osl d 1 0 b.size,[],[(d,.arr 1 (t.map byteV))]⟩:=by rw [hsz];exact h
  refine fin_row hR hF hcl (cur:=cells) (e:=e) (fz:=(cap,cap+1)) (k:=1) (cap:=cap) (xs:=t.map byteV) (by omega) (by omega) (tg:=none) trivial (.inr (by simp;omega)) (by simp;omega) hcm (byteV_ok t) (fun i j u v hu hv=>?_)
   (by rw [hw1];rfl) (by rw [hw1];rfl) (by rw [hw1];rfl) (by rw [hw1]) (n:=b.size) (by simp [hsz]) hrun (.inl hk)
  ·rw [List.getElem?_map] at hu
   cases hti:t[i]? with
   | none=>rw [hti] at hu;cases hu
   | some cc =>
    rw [hti] at hu;simp at hu;subst hu
    cases j with
    | succ j=>simp [byteV,V.cells] at hv
    | zero =>
     simp [byteV,V.cells] at hv;subst hv
     have hlt:i<t.length:=(List.getElem?_eq_some_iff.1 hti).1
     have e1:cells.getD (i*1+0) undef=.int .u8 cc.toNat:=by
      have h1:b.data[i]?=some cc:=by rw [←Array.getElem?_toList,hb];exact hti
      have h2:i<(b.data.map fun b=>Value.int .u8 b.toNat).size:=by
       have:b.data.size=b.size:=rfl
       simp [this];omega
      rw [hcells]
      simp only [Nat.mul_one,Nat.add_zero,Array.getD_eq_getD_getElem?]
      rw [Array.getElem?_append_left h2,Array.getElem?_map,h1]
      rfl
     rw [e1]
     exact byte_rd cc
 ·exact h.elim
end
end Go.Ab
