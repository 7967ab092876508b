/- The abstract layer, part 23: from a call that answers true to a law's row. -/
import Derived.Test.YtnaeedamiaoipaaGreatDoorAbOpen
import Derived.WideKeyArgs
import Derived.ChangeSame
import Derived.WideShapes
import Derived.Stop.LaidErr
set_option linter.all false
set_option linter.unusedVariables false
namespace Go.Ab
open Go.RowKit Go.WideShapes
def argOK (s:Bool×List Sh) (x:V):Prop:=bif s.1 then ∃zs,x=.agg zs∧Sh.hasL s.2 zs else Sh.hasL s.2 [x]
def argsOK:List (Bool×List Sh)→List V→Prop
 | [],[]=>True
 | s::r,x::q=>argOK s x∧argsOK r q
 | _,_=>False
section
variable {H:Type} {enc:TypeId×Value→H} {P:Program} {W:World} {base:Nat}
def gh0 (W:World):Gh:=⟨Old W,id,id,id,fun _=>False⟩
theorem one_arg {v:Value} {b:Bool} {shs:List Sh} {xs:List V} (hc:v.cells=#[v]) (h:Reads W 0 v.cells.toList shs xs) (hl:v.cells.toList.length=shs.length):∃y,VR (gh0 W) W v y∧argOK (false,shs) y:=by
 have h1:xs.length=1:=by rw [hasL_len h.has,←hl,hc];rfl
 match xs,h1,h with
 | [y],_,h =>
  refine ⟨y,.rd ?_,h.has⟩
  have:=h.rd 0 y rfl
  rw [hc] at this
  exact (by simpa using this:Rd (Old W) W v y)
theorem arg_reads {ρ:TypeId→Option (V→Prop)} (hρ:∀F,RhoOK H enc P W 0 (fun _=>true) true ρ F) {n:Nat} {t:TypeId} {b:Bool} {shs:List Sh} {v:Value} {d:DataW H} {ps:List MemPlace} (hs:shT P ρ n t=some (b,shs)) (hv:Value.okWide P W .any base t v) (ht:DataW.Trod enc P W 0 (fun _=>true) true t v d ps) :
  ∃y,VR (gh0 W) W v y∧argOK (b,shs) y:=by
 obtain ⟨fuel,ht⟩:=ht
 obtain ⟨xs,h1,h2⟩:=(trod_sh (enc:=enc) (P:=P) (w:=W) (base:=0) (sp:=fun _=>true) (held:=true) (hρ fuel) n).1 fuel (Nat.le_refl _) t _ _ _ _ hs ht
 cases n with
 | zero=>simp [shT] at hs
 | succ n =>
  simp only [shT] at hs
  split at hs
  ·rename_i hu
   cases hs
   obtain ⟨c,rfl⟩:=okWide_bool hu hv
   exact one_arg (b:=false) rfl h1 h2
  ·rename_i k hu
   cases hs
   obtain ⟨c,rfl⟩:=okWide_int hu hv
   exact one_arg (b:=false) rfl h1 h2
  ·rename_i hu
   cases hs
   obtain ⟨c,rfl⟩:=okWide_string hu hv
   exact one_arg (b:=false) rfl h1 h2
  ·rename_i e hu
   split at hs
   ·cases hs
    obtain ⟨a,len,cap,rfl⟩:=okWide_slice hu hv
    exact one_arg (b:=false) rfl h1 h2
   split at hs
   ·cases hc:(Nat.beq (P.cellsOf e) _&&Nat.blt 0 _&&(_||Nat.beq _ 1)) with
    | false=>rw [hc] at hs;cases hs
    | true =>
     rw [hc] at hs;cases hs
     obtain ⟨a,len,cap,rfl⟩:=okWide_slice hu hv
     exact one_arg (b:=false) rfl h1 h2
   ·cases hs
  ·rename_i fs hu
   split at hs
   ·rename_i cs' hf
    cases hc:Nat.beq (P.cellsOf t) cs'.length with
    | false=>rw [hc] at hs;cases hs
    | true =>
     rw [hc] at hs
     simp only [cond_true,Option.some.injEq,Prod.mk.injEq] at hs
     obtain ⟨rfl,rfl⟩:=hs
     obtain ⟨cs,rfl,_⟩:=okWide_struct hu hv
     refine ⟨.agg xs,.rd (.agg cs xs ?_ fun i c hc=>?_),⟨xs,rfl,h1.has⟩⟩
     ·have:=hasL_len h1.has
      have h2':cs.size=cs'.length:=by simpa [Value.cells] using h2
      omega
     ·have:=h1.rd i c hc
      exact (by simpa [Value.cells,Array.getD_eq_getD_getElem?,List.getD] using this:Rd (Old W) W (cs.getD i undef) c)
   ·cases hs
  ·cases hs
theorem args_reads {ρ:TypeId→Option (V→Prop)} (hρ:∀F,RhoOK H enc P W 0 (fun _=>true) true ρ F) {n:Nat}:∀{ts:List TypeId} {shs:List (Bool×List Sh)} {vs:List Value} {ds:List (DataW H)} {ps:List MemPlace},ts.map (shT P ρ n)=shs.map some→(∀(j:Nat) t v,ts[j]?=some t→vs[j]?=some v→Value.okWide P W .any base t v) →
  DataW.TrodAll enc P W 0 (fun _=>true) true ts vs ds ps→∃ys,ys.length=vs.length∧argsOK shs ys∧∀(i:Nat) (y:V),ys[i]?=some y→VR (gh0 W) W (vs.getD i undef) y
 | [],shs,[],[],ps,hs,_,_=>by
  cases shs with
  | nil=>exact ⟨[],rfl,trivial,fun i y h=>by simp at h⟩
  | cons _ _=>simp at hs
 | t::ts,shs,v::vs,d::ds,ps,hs,hv,h=>by
  cases shs with
  | nil=>simp at hs
  | cons s shs =>
   simp only [List.map_cons,List.cons.injEq] at hs
   obtain ⟨p,q,h1,h2,_⟩:=h
   obtain ⟨b,sh⟩:=s
   obtain ⟨y,k1,k2⟩:=arg_reads hρ hs.1 (hv 0 t v rfl rfl) h1
   obtain ⟨ys,k3,k4,k5⟩:=args_reads hρ hs.2 (fun j t v h1 h2=>hv (j+1) t v (by simpa using h1) (by simpa using h2)) h2
   refine ⟨y::ys,by simp [k3],⟨k2,k4⟩,fun i z hz=>?_⟩
   cases i with
   | zero=>simp at hz;subst hz;simpa using k1
   | succ i=>simp at hz;simpa using k5 i z hz
 | [],_,_::_,_,_,_,_,h=>h.elim
 | [],_,[],_::_,_,_,_,h=>h.elim
 | _::_,_,[],_,_,_,_,h=>h.elim
 | _::_,_,_::_,[],_,_,_,h=>h.elim
theorem trodAll_len {w:World} {sp:Nat→Bool} {held:Bool}:∀{ts:List TypeId} {vs:List Value} {ds:List (DataW H)} {ps:List MemPlace},DataW.TrodAll enc P w base sp held ts vs ds ps→ds.length=ts.length∧vs.length=ts.length
 | [],[],[],_,_=>⟨rfl,rfl⟩
 | t::ts,v::vs,d::ds,ps,h=>by
  obtain ⟨p,q,_,h2,_⟩:=h
  have:=trodAll_len h2
  simp [this.1,this.2]
 | [],_::_,_,_,h=>h.elim
 | [],[],_::_,_,h=>h.elim
 | _::_,[],_,_,h=>h.elim
 | _::_,_::_,[],_,h=>h.elim
theorem trodAll_stays {W':World} {sp:Nat→Bool} (hl:laidOutB P=true):∀{ts:List TypeId} {vs:List Value} {ds:List (DataW H)} {ps:List MemPlace},(∀t∈ts,P.readableRec t=true∧t<P.types.size)→(∀p∈ps,W.sameAt W' p∧sp p.block=true) →
  DataW.TrodAll enc P W base (fun _=>true) true ts vs ds ps→DataW.TrodAll enc P W' base sp true ts vs ds ps
 | [],[],[],_,_,_,h=>h
 | t::ts,v::vs,d::ds,ps,ht,hp,h=>by
  obtain ⟨p,q,h1,h2,rfl⟩:=h
  exact ⟨p,q,WideElems.Trod_stays hl (ht t (by simp)).1 (ht t (by simp)).2 h1 (fun x hx=>(hp x (by simp [hx])).1) (fun x hx=>(hp x (by simp [hx])).2),
   trodAll_stays hl (fun t' h'=>ht t' (by simp [h'])) (fun x hx=>hp x (by simp [hx])) h2,rfl⟩
 | [],_::_,_,_,_,_,h=>h.elim
 | [],[],_::_,_,_,_,h=>h.elim
 | _::_,[],_,_,_,_,h=>h.elim
 | _::_,_::_,[],_,_,_,h=>h.elim
theorem law_calls {ρ:TypeId→Option (V→Prop)} {nr:Nat} (hR:∀t R,ρ t=some R→RhoAt P ρ nr t R) {f:Nat} {fn:Func} {s:ChangeSpec} {n:Nat} {shs:List (Bool×List Sh)} {tb:TypeId} (hl:laidOutB P=true) (hrd:∀t∈fn.params.toList,P.readableRec t=true∧t<P.types.size) (hsh:fn.params.toList.map (shT P ρ n)=shs.map some)
  (hrt:fn.resultTypes=#[tb]) (hb:P.underlying tb=some .bool) (hvars:s.vars=[]) (hfn:∀ds:List (DataW H),ds.length=fn.params.size→s.fn H ds={ results:=[.lit (.bool true)],args:=ds })
  (hcall:∀ys,argsOK shs ys→ACall P f ys [] (fun r H=>r=.bool true∧H=[]))
  {args:Array Value} {ds gs:List (DataW H)} {before:List MemPlace} (hval:∀(j:Nat) t v,fn.params[j]?=some t→args[j]?=some v→Value.okWide P W .any base t v)
  (hW:DataW.Whole enc P fn.params.toList s.vars false W args.toList ds gs before) (htabs:Tabs P W) :
  Calls P f args W fun e W'=>∃v,e=.returned v∧s.post enc P fn false true false false W args v W':=by
 have hW0:=hW
 obtain ⟨p,q,hA,hV,rfl,hfz,_⟩:=hW
 rw [hvars] at hV
 have hgs:gs=[]∧q=[]:=by
  cases gs with
  | nil=>exact ⟨rfl,hV⟩
  | cons _ _=>exact hV.elim
 obtain ⟨rfl,rfl⟩:=hgs
 obtain ⟨ys,k1,k2,k3⟩:=args_reads (base:=base) (rho_ok hR) hsh (fun j t v h1 h2=>hval j t v (by simpa using h1) (by simpa using h2)) hA
 have hkeep:∀{w':World},Keep (Old W) W w'→Tabs P w':=by
  intro w' hk
  have key:∀(n:String) (cs:Array Value),World.var? P W n=some cs→World.var? P w' n=some cs:=fun n cs h=>by
   unfold World.var? at h ⊢
   cases hgn:P.globalNamed n with
   | none=>rw [hgn] at h;cases h
   | some g =>
    rw [hgn] at h
    simp only [Option.bind_some] at h ⊢
    have hlt:g<W.heap.size:=by
     cases hh:W.heap[g]? with
     | none=>rw [hh] at h;cases h
     | some o=>exact (Array.getElem?_eq_some_iff.1 hh).1
    rw [hk g hlt];exact h
  exact ⟨fun d hd hg=>key _ _ (htabs.1 d hd hg),fun n hn hg=>by
   obtain ⟨tp,p,h⟩:=htabs.2 n hn hg
   exact ⟨tp,p,key _ _ h⟩⟩
 have hH:HRel P (gh0 W) W []:=⟨fun id o h=>(by cases h),fun i j o o' h=>(by cases h),fun id o h=>(by cases h),fun b h=>h,fun w' hk=>hkeep hk⟩
 refine ((hcall ys k2).2 (gh0 W) W args hH (by rw [k1];simp) fun i x hx=>?_).mono ?_
 ·have:=k3 i x hx
  simpa [Array.getD_eq_getD_getElem?,List.getD] using this
 ·rintro e W' ⟨v,r,H',g',rfl,⟨rfl,rfl⟩,_,hv,hf,_⟩
  have hold:∀b,b<W.heap.size→W'.heap[b]?=W.heap[b]?:=fun b hb=>hf.old b hb fun ⟨id,o,h,_⟩=>by cases h
  have hvt:=hv.bool_inv
  subst hvt
  obtain ⟨hdl,hvl⟩:=trodAll_len hA
  have hlt:∀x∈p++[],x.block<W.heap.size:=fun x hx=>hW0.lt x hx
  have hfnds:=hfn ds (by rw [hdl];simp)
  refine ⟨_,rfl,ds,[],p++[],[],p,[],hW0,?_,?_,?_,?_,fun h=>by cases h⟩
  ·rw [List.append_nil,hfnds,hrt]
   exact ⟨[],[],⟨1,by simp [DataW.trod,hb,Value.cells]⟩,rfl,rfl⟩
  ·rw [List.append_nil,hfnds]
   refine trodAll_stays hl hrd (fun x hx=>⟨?_,by simpa using hlt x (by simp [hx])⟩) hA
   have:=hold x.block (hlt x (by simp [hx]))
   cases x with
   | cell b off=>simp only [MemPlace.block] at this;simp [World.sameAt,World.cell?,this]
   | map b=>exact this
  ·rw [hvars,List.append_nil,hfnds];rfl
  ·refine ⟨hf.os,hf.output,fun i hi=>?_⟩
   rw [hold i hi]
   cases W.heap[i]? with
   | none=>rfl
   | some o=>cases o<;>first|rfl|exact ⟨rfl,rfl,rfl,fun _ _=>rfl⟩|exact .inr ⟨rfl,rfl⟩
theorem laid_mem {name:String} {d:DataW Unit}:∀{l:List (String×DataW Unit)} {ps:List MemPlace},DataW.LaidVars P W l ps→(name,d)∈l →
  ∃g t cs fuel p,P.globalNamed name=some g∧(P.globals[g]?).map (·.type)=some t∧W.var? P name=some cs∧DataW.trod (fun _=>()) P W 0 (fun _=>true) false fuel t cs.toList=some (d,p)
 | (n,d')::r,ps,h,hm=>by
  obtain ⟨g,t,cs,fuel,p,q,h1,h2,h3,h4,h5,_⟩:=h
  rcases List.mem_cons.1 hm with e|hm
  ·cases e;exact ⟨g,t,cs,fuel,p,h1,h2,h3,h4⟩
  ·exact laid_mem h5 hm
theorem tab_of_mem {name:String} {k:IntKind} {zs:List Int} {l:List (String×DataW Unit)} {g:Nat} {t e:TypeId} {n:Nat} (hm:(name,Lib.tabData k zs)∈l)
  (hg:P.globalNamed name=some g) (hty:(P.globals[g]?).map (·.type)=some t) (ht:P.underlying t=some (.array n e)) (he:P.underlying e=some (.int k)) (hce:P.cellsOf e=1) (hct:P.cellsOf t=n) (h:laidMet P l W):Lib.TabIs P W name k zs:=by
 obtain ⟨ps,hl,_⟩:=h
 obtain ⟨g',t',cs,fuel,p,hg',ht',hvar,hd⟩:=laid_mem hl hm
 obtain rfl:=Option.some.inj (hg.symm.trans hg')
 obtain rfl:=Option.some.inj (hty.symm.trans ht')
 unfold Lib.TabIs
 rw [hvar,←Lib.cells_of_tab ht he hce hct hd]
theorem err_laid {n nm:String} {text:List UInt8} {g:Nat} {ti tp te ts:TypeId} {ms:Array (String×TypeId)} {f:Field}
  (hg:P.globalNamed n=some g) (ht:(P.globals[g]?).map (·.type)=some ti) (hi:P.underlying ti=some (.interface ms)) (hrow:∀u,P.typeName? 3 u=some nm→u=tp)
  (hp:P.underlying tp=some (.pointer te)) (he:P.underlying te=some (.struct #[f])) (hft:f.type=ts) (hfo:f.offset=0) (hs:P.underlying ts=some .string) (hc:P.cellsOf te=1) (hcs:P.cellsOf ts=1) :
  ∀{l:List (String×DataW Unit)} (k:Nat),l[k]?=some (n,.iface nm (.ptr (.agg [.lit (.string text)])))→laidMet P l W→∃tp p,World.var? P W n=some #[.iface tp p]
 | [],_,e,_=>by cases e
 | x::r,0,e,h=>by
  obtain rfl:=Option.some.inj e
  obtain ⟨a,s,hv,_⟩:=laid_sentinel h hg ht hi hrow hp he hft hfo hs hc hcs
  exact ⟨tp,_,hv⟩
 | x::r,k+1,e,h=>err_laid hg ht hi hrow hp he hft hfo hs hc hcs (l:=r) k (by simpa using e) h.tail
theorem map_of {α:Type} {f:α→V}:∀{ys:List V},(∀y∈ys,∃a,y=f a)→∃l:List α,ys=l.map f
 | [],_=>⟨[],rfl⟩
 | y::r,h=>by
  obtain ⟨a,rfl⟩:=h y (by simp)
  obtain ⟨l,rfl⟩:=map_of (ys:=r) fun z hz=>h z (by simp [hz])
  exact ⟨a::l,rfl⟩
theorem argsOK_cons {s:Bool×List Sh} {r:List (Bool×List Sh)} {ys:List V} (h:argsOK (s::r) ys):∃x q,ys=x::q∧argOK s x∧argsOK r q:=by
 cases ys with
 | nil=>exact h.elim
 | cons x q=>exact ⟨x,q,rfl,h.1,h.2⟩
theorem argsOK_nil {ys:List V} (h:argsOK [] ys):ys=[]:=by
 cases ys with
 | nil=>rfl
 | cons x q=>exact h.elim
end
end Go.Ab
