/- The abstract layer, part 11: code, and calls. -/
import Derived.Test.YtnaeedamiaoipaaGreatDoorAbSndM
import Derived.Lib.Builder
import Derived.Lib.UnsafeStr
import Derived.Sort.Grow
import Derived.Deep.Draws
import Derived.Shelf.RegionOpenPlain
import Derived.KernelRfl
import Derived.ChangeArms
import Derived.ChangeShapes
import Derived.WideKeyArgs
import Derived.ChangeSame
import Derived.WideShapes
import Derived.Stop.LaidErr
import Derived.Sort.Row
import Derived.Laws.IdiomCopy
import Derived.Lib.SlicesCompact
import Derived.Deep.OwnRows
import Derived.Lib.Overlaps
import Derived.Shelf.SlicesE.DeleteFunc
import Derived.Lib.ItoaLen
import Derived.Lib.AtoiAllCases
import Derived.Lib.SmallJoins
import Derived.Shelf.Strings.Split
set_option linter.all false
namespace Go.Ab
open Go.RowKit
inductive MC where
 | skip
 | ret
 | exit (id:Nat)
 | reg (ms:List MOp)
 | regI (its:List It)
 | regD (ms:List MOp) (aft anc:List (List Nat))
 | seq (a b:MC)
 | cut (a b:MC)
 | cond (c:Opd) (t e:MC)
 | block (id:Nat) (b:MC)
 | loop (b:MC)
 | note (n:a4y) (b:MC)
 | rngF (g:Opd) (ps:List Nat) (a b:MC)
 | no
 | hnote (T:St→(St→Prop)→Prop) (b:MC)
def d64 (n:Nat):List Nat→Bool
 | []=>true
 | x::r=>Nat.blt x n&&d64 n r
theorem c4u {n:Nat}:∀{l:List Nat},d64 n l=true→∀p∈l,p<n
 | x::r,h,p,hp=>by
  simp only [d64,wC] at h
  rcases wV.1 hp with e|hp
  ·subst e;have:=h.1;simp [Nat.blt] at this;omega
  ·exact c4u h.2 p hp
def MC.flat:MC→Bool
 | .rngF _ _ _ _=>false
 | .hnote _ _=>false
 | .seq a b|.cut a b=>a.flat&&b.flat
 | .cond _ t e=>t.flat&&e.flat
 | .block _ b|.loop b|.note _ b=>b.flat
 | _=>true
def MC.nh:MC→Bool
 | .hnote _ _=>false
 | .seq a b|.cut a b=>a.nh&&b.nh
 | .cond _ t e=>t.nh&&e.nh
 | .block _ b|.loop b|.note _ b=>b.nh
 | _=>true
def MC.ok (P:Program) (nt:Nat):MC→Code→Bool
 | .note _ b,c=>b.ok P nt c
 | .hnote _ b,c=>b.ok P nt c
 | .no,_=>true
 | .skip,.skip=>true
 | .ret,.ret=>true
 | .exit i,.exit j=>Nat.beq i j
 | .reg ms,.region _ ops draw=>!draw&&ops.toList.all a3b&&a1o P nt ops ms ops.toList
 | .regI its,.region _ ops draw=>!draw&&ops.toList.all a3b&&a1o P nt ops (b2q its) ops.toList
 | .regD ms aft anc,.region _ ops draw=>draw&&ops.toList.all a3b&&P.follows .mixedOrders&&a1o P nt ops ms ops.toList&&b3c aft ops.toList&&b1a anc 0 aft anc&&b0b ms ms anc
 | .seq a b,.seq c d=>a.ok P nt c&&b.ok P nt d
 | .cut a b,.seq c d=>a.ok P nt c&&b.ok P nt d
 | .cond x t e,.cond y c d=>x.ok y&&t.ok P nt c&&e.ok P nt d
 | .block i b,.block j c=>Nat.beq i j&&b.ok P nt c
 | .loop b,.loop c=>b.ok P nt c
 | .rngF x ps a b,.rangeFunc y qs c d=>x.ok y&&b4d ps qs.toList&&d64 nt ps&&a.flat&&b.flat&&a.ok P nt c&&b.ok P nt d
 | _,_=>false
def b5s (c:Opd) (b:Bool) (σ:St):St :=
 match c with
 | .t s=>⟨put s (.bool b) σ.env,σ.heap⟩
 | _=>σ
def MWP (P:Program) (H0:Heap):MC→(St→Prop)→(Nat→St→Prop)→(St→Prop)→St→Prop
 | .skip,K,_,_,σ=>K σ
 | .ret,_,_,R,σ=>R σ
 | .exit id,_,X,_,σ=>X id σ
 | .reg ms,K,_,_,σ=>runN P H0 ms σ K
 | .regI its,K,_,_,σ=>c0w P H0 its σ K
 | .regD ms _ anc,K,_,_,σ=>c88 P H0 ms [] σ fun log σ'=>a3f H0 σ 0 anc log.reverse=true∧K σ'
 | .seq a b,K,X,R,σ=>MWP P H0 a (fun σ'=>MWP P H0 b K X R σ') X R σ
 | .cut a b,K,X,R,σ=>Lk (∃(α:Type) (I:α→St) (p:α→Prop) (ns:List a4y),MWP P H0 a (fun σ'=>Lk (a0m H0 ns σ' fun σ'=>∃y,p y∧a0v (I y) σ')) X R σ∧∀y,p y→factsSt (I y)→MWP P H0 b K X R (I y))
 | .cond c t e,K,X,R,σ=>match c.ev σ.env with
  | .bool b=>a4q b true (MWP P H0 t K X R (b5s c true σ)) (MWP P H0 e K X R (b5s c false σ))
  | _=>False
 | .block id b,K,X,R,σ=>MWP P H0 b K (fun i σ'=>bif Nat.beq i id then K σ' else X i σ') R σ
 | .loop b,K,X,R,σ=>Lk (∃(α:Type) (I:α→St) (p:α→Prop) (μ:α→Nat) (ns:List a4y),(a0m H0 ns σ fun σ'=>∃x,p x∧a0v (I x) σ') ∧
   ∀x,p x→factsSt (I x)→MWP P H0 b (fun σ'=>Lk (a0m H0 ns σ' fun σ'=>∃y,p y∧μ y<μ x∧a0v (I y) σ')) X R (I x))
 | .note n b,K,X,R,σ=>a0t H0 n σ fun σ'=>MWP P H0 b K X R σ'
 | .rngF s ps a b,K,X,R,σ=>match s.ev σ.env with
  | .fn (.func gf) caps=>Lk (∃(Hc:Heap) (xss:List (List V)) (pins:List Nat) (α:Type) (I:Nat→α→Heap) (p:Nat→α→Prop) (ns:List a4y),
    b8k P gf caps Hc xss∧a0v ⟨[],Hc⟩ σ∧c06 pins σ.env=true∧(∀xs∈xss,xs.length=ps.length∧V.withinL [] xs=true)∧(∃x,p 0 x∧a0v ⟨[],I 0 x⟩ σ∧∀q∈Hc,find q.1 (I 0 x)=none) ∧
    (∀k x xs,xss[k]?=some xs→p k x→b0p (I k x)→MWP P (b7l H0 pins) a (fun σ1=>MWP P (b7l H0 pins) b (fun σ'=>Lk (a0m (b7l H0 pins) ns σ' fun σ'=>∃y,p (k+1) y∧a0v ⟨[],I (k+1) y⟩ σ'))
     (fun i σ'=>X i ⟨σ.env,σ'.heap⟩) (fun σ'=>R ⟨σ.env,σ'.heap⟩) σ1) (fun _ _=>False) (fun _=>False) ⟨b5m ps xs σ.env,I k x⟩) ∧
    (∀x,p xss.length x→K ⟨σ.env,I xss.length x⟩))
  | _=>False
 | .no,_,_,_,_=>False
 | .hnote T b,K,X,R,σ=>T σ fun σ'=>MWP P H0 b K X R σ'
section
variable {P:Program} {c:Ctx}
theorem exists_least (p:Nat→Prop) (h:∃n,p n):∃n,p n∧∀m,p m→n≤m:=by
 obtain ⟨n,hn⟩:=h
 induction n using Nat.strongRecOn with
 | _ n ih =>
  by_cases hm:∃m,m<n∧p m
  ·obtain ⟨m,h1,h2⟩:=hm
   exact ih m h1 h2
  ·exact ⟨n,hn,fun m hp=>Nat.le_of_not_lt fun hlt=>hm ⟨m,hlt,hp⟩⟩
open Classical in
theorem wpIn_loop' {F:Fence} {n:Nat} {Q:Exit→Act→World→Prop} {body:Code} {α:Type} (I:α→Act→World→Prop) (μ:α→Nat) {a:Act} {w:World} (h0:∃x,I x a w)
  (round:∀x a w,I x a w→body.wpIn F n P (Exit.then (fun a' w'=>∃y,I y a' w'∧μ y<μ x) Q) a w):(Code.loop body).wpIn F n P Q a w:=by
 let p:Act→World→Nat→Prop:=fun a w n=>∃x,I x a w∧μ x=n
 let m:Act→World→Nat:=fun a w=>if h:∃n,p a w n then Classical.choose (exists_least _ h) else 0
 refine wpIn_loop (fun a w=>∃x,I x a w) m h0 fun a w hx=>?_
 have hex:∃n,p a w n:=by obtain ⟨x,hx⟩:=hx;exact ⟨_,x,hx,rfl⟩
 have hm:m a w=Classical.choose (exists_least _ hex):=by simp [m,hex]
 obtain ⟨⟨x,hI,hμ⟩,_⟩:=Classical.choose_spec (exists_least _ hex)
 refine wpIn_mono (round x a w hI) fun e a' w' hq=>?_
 cases e with
 | normal =>
  obtain ⟨y,hy,hlt⟩:=hq
  refine ⟨⟨y,hy⟩,?_⟩
  have hex':∃n,p a' w' n:=⟨_,y,hy,rfl⟩
  have hm':m a' w'=Classical.choose (exists_least _ hex'):=by simp [m,hex']
  have:=(Classical.choose_spec (exists_least _ hex')).2 (μ y) ⟨y,hy,rfl⟩
  rw [hm',hm,←hμ]
  omega
 | _=>exact hq
theorem c09 {g:Gh} {σ:St} {a:Act} {w:World} {x:Opd} {b:Bool} (h:Rel P c g σ a w) (hx:x.ev σ.env=.bool b):b5s x b σ=σ:=by
 cases x with
 | t s=>simp only [b5s,a5r (b0i hx)]
 | _=>rfl
def a8h (P:Program) (c:Ctx):MC→Prop
 | .hnote T b=>(∀(K:St→Prop) (c':Ctx) (g:Gh) (σ:St) (a:Act) (w:World),c.le c'→Rel P c' g σ a w→T σ K→∃g' σ',K σ'∧Rel P c' g' σ' a w)∧a8h P c b
 | .seq a b|.cut a b=>a8h P c a∧a8h P c b
 | .cond _ t e=>a8h P c t∧a8h P c e
 | .block _ b|.loop b|.note _ b=>a8h P c b
 | _=>True
theorem a8h.of_nh:∀{mc:MC},mc.nh=true→a8h P c mc
 | .hnote _ _,h=>by cases h
 | .seq a b,h=>by simp only [MC.nh,wC] at h;exact ⟨a8h.of_nh h.1,a8h.of_nh h.2⟩
 | .cut a b,h=>by simp only [MC.nh,wC] at h;exact ⟨a8h.of_nh h.1,a8h.of_nh h.2⟩
 | .cond _ t e,h=>by simp only [MC.nh,wC] at h;exact ⟨a8h.of_nh h.1,a8h.of_nh h.2⟩
 | .block _ b,h=>by simp only [MC.nh] at h;exact a8h.of_nh (mc:=b) h
 | .loop b,h=>by simp only [MC.nh] at h;exact a8h.of_nh (mc:=b) h
 | .note _ b,h=>by simp only [MC.nh] at h;exact a8h.of_nh (mc:=b) h
 | .skip,_|.ret,_|.exit _,_|.reg _,_|.regI _,_|.regD _ _ _,_|.rngF _ _ _ _,_|.no,_=>trivial
theorem MC.flat_nh:∀{mc:MC},mc.flat=true→mc.nh=true
 | .hnote _ _,h=>by cases h
 | .seq a b,h=>by simp only [MC.flat,wC] at h;simp only [MC.nh,MC.flat_nh h.1,MC.flat_nh h.2,w5]
 | .cut a b,h=>by simp only [MC.flat,wC] at h;simp only [MC.nh,MC.flat_nh h.1,MC.flat_nh h.2,w5]
 | .cond _ t e,h=>by simp only [MC.flat,wC] at h;simp only [MC.nh,MC.flat_nh h.1,MC.flat_nh h.2,w5]
 | .block _ b,h=>by simp only [MC.flat] at h;simp only [MC.nh,MC.flat_nh (mc:=b) h]
 | .loop b,h=>by simp only [MC.flat] at h;simp only [MC.nh,MC.flat_nh (mc:=b) h]
 | .note _ b,h=>by simp only [MC.flat] at h;simp only [MC.nh,MC.flat_nh (mc:=b) h]
 | .skip,_|.ret,_|.exit _,_|.reg _,_|.regI _,_|.regD _ _ _,_|.rngF _ _ _ _,_|.no,_=>rfl
theorem a8h.mono {c':Ctx} (hl:c.le c'):∀{mc:MC},a8h P c mc→a8h P c' mc
 | .hnote _ b,h=>⟨fun K c2 g σ a w h2=>h.1 K c2 g σ a w (hl.trans h2),a8h.mono hl h.2⟩
 | .seq a b,h=>⟨a8h.mono hl h.1,a8h.mono hl h.2⟩
 | .cut a b,h=>⟨a8h.mono hl h.1,a8h.mono hl h.2⟩
 | .cond _ t e,h=>⟨a8h.mono hl h.1,a8h.mono hl h.2⟩
 | .block _ b,h=>a8h.mono (mc:=b) hl h
 | .loop b,h=>a8h.mono (mc:=b) hl h
 | .note _ b,h=>a8h.mono (mc:=b) hl h
 | .skip,_|.ret,_|.exit _,_|.reg _,_|.regI _,_|.regD _ _ _,_|.rngF _ _ _ _,_|.no,_=>trivial
def d66 (P:Program) (r:Option Nat) (mc:MC):Prop :=
 ∀ ⦃n:Nat⦄ ⦃c:Ctx⦄ ⦃code:Code⦄ ⦃Q:Exit→Act→World→Prop⦄ ⦃K:St→Prop⦄ ⦃X:Nat→St→Prop⦄ ⦃R:St→Prop⦄ ⦃g:Gh⦄ ⦃σ:St⦄ ⦃a:Act⦄ ⦃w:World⦄,a8h P c mc→(∀a w,¬Q .outgrown a w)→mc.ok P c.nt code=true→Rel P c g σ a w→MWP P c.H0 mc K X R σ →
  (∀c' σ g a w,c.le c'→K σ→Rel P c' g σ a w→Q .normal a w)→(∀c' i σ g a w,c.le c'→X i σ→Rel P c' g σ a w→Q (.exit i) a w)→(∀c' σ g a w,c.le c'→R σ→Rel P c' g σ a w→Q .ret a w)→code.wpIn (WF r) n P Q a w
section
variable {g:Gh} {w w':World} {H:Heap} {c c2 c':Ctx} {ds:List Deferred}
theorem b95 (h:a3p P g w H) (hf:Frm c g w H) (hd:Dfr c w ds) (e0:c2.w0=c.w0) (eg:c2.g0=c.g0) (eh:c2.hm=c.hm) (hgp:∀b,c2.gp.S b→g.S b) (hpar:∀id o,find id c2.H0=some o→c2.gp.agree g id)
  (hos:w'.os=w.os) (ht:w'.tape=w.tape) (ho:w'.output=w.output) (hsz:w.heap.size≤w'.heap.size) (hb:∀b,b<w.heap.size→c.free b→w'.heap[b]?=w.heap[b]?) (hfr:∀b,b<w.heap.size→(g.S b∨d5s g H b)→c.free b→c2.free b) :
  a3p P g w' H∧Frm c2 g w' H∧a2d g.S w w' :=
 ⟨(h.other hf hsz hb).1,hf.other h hd e0 eg eh hgp hpar hos ht ho hsz hb hfr,(h.other hf hsz hb).2⟩
theorem c26 (hl:c.le c') (h:a3p P g w H) (hf:Frm c' g w H) (hd:Dfr c' w ds):Frm c g w H∧Dfr c w c.dfr:=by
 obtain ⟨k,ek⟩:=hl.kp
 have hfr:∀b,c'.free b→c.free b:=fun b hb o ho=>hb o (by rw [ek];exact zT _ ho)
 refine ⟨hf.other h hd hl.w0.symm hl.g0.symm hl.hm.symm (fun b hS=>hf.sup b (.inr (by rw [hl.gp];exact hS))) (fun id o ho=>?_) rfl rfl rfl (vI _) (fun _ _ _=>rfl) (fun b _ _=>hfr b),rfl,fun b o ho=>?_,?_⟩
 ·rw [←hl.gp];exact hf.par id o (by rw [hl.H0];exact ho)
 ·have:=hd.2.1 b o (by rw [ek];exact zT _ ho)
  simp only [Ctx.M,hl.w0,hl.hm,hl.g0] at this ⊢;exact this
 ·have:=hd.2.2
  rwa [hl.gp,hl.wp] at this
end
theorem b82 {α:Type} {n:Nat} {x:α}:∀{l:List (Nat×α)},find n l=some x→(n,x)∈l
 | (m,y)::r,h=>by
  simp only [find] at h
  cases hb:Nat.beq n m with
  | true=>rw [hb] at h;cases h;rw [zR hb];exact xH
  | false=>rw [hb] at h;exact xB _ (b82 h)
open Classical in
theorem d1g (g:Gh) (Hc:Heap):∃bl:List Nat,∀b,b∈bl↔d5s g Hc b:=by
 have key:∀l:List Nat,∃bl:List Nat,∀b,b∈bl↔∃id,id∈l∧(∃o,find id Hc=some o)∧¬g.nil id∧g.ρ id=b:=fun l=>by
  induction l with
  | nil=>exact ⟨[],fun b=>by simp⟩
  | cons i r ih =>
   obtain ⟨bl,h⟩:=ih
   by_cases hc:(∃o,find i Hc=some o)∧¬g.nil i
   ·refine ⟨g.ρ i::bl,fun b=>?_⟩
    rw [wV,h]
    constructor
    ·rintro (rfl|⟨id,h1,h2⟩)
     ·exact ⟨i,by simp,hc.1,hc.2,rfl⟩
     ·exact ⟨id,by simp [h1],h2⟩
    ·rintro ⟨id,h1,h2,h3,h4⟩
     rcases wV.1 h1 with rfl|h1
     ·exact .inl h4.symm
     ·exact .inr ⟨id,h1,h2,h3,h4⟩
   ·refine ⟨bl,fun b=>?_⟩
    rw [h]
    constructor
    ·rintro ⟨id,h1,h2⟩;exact ⟨id,by simp [h1],h2⟩
    ·rintro ⟨id,h1,h2,h3,h4⟩
     rcases wV.1 h1 with rfl|h1
     ·exact absurd ⟨h2,h3⟩ hc
     ·exact ⟨id,h1,h2,h3,h4⟩
 obtain ⟨bl,h⟩:=key (Hc.map (·.1))
 refine ⟨bl,fun b=>(h b).trans ⟨?_,?_⟩⟩
 ·rintro ⟨id,_,⟨o,h1⟩,h2,h3⟩;exact ⟨id,o,h1,h2,h3⟩
 ·rintro ⟨id,o,h1,h2,h3⟩;exact ⟨id,vD.2 ⟨(id,o),b82 h1,rfl⟩,⟨o,h1⟩,h2,h3⟩
theorem c5k (s:Opd) (ps:List Nat) (a b:MC) (ha:∀l,a.flat=true→d66 P (some l) a) (hb:∀l,b.flat=true→d66 P (some l) b):d66 P none (.rngF s ps a b):=by
 intro n c code Q K X R g σ ac w hN hQ hok hR h hK hX hT
 cases code<;>try (simp [MC.ok] at hok;done)
 rename_i y qs casg cbody
 simp only [MC.ok,wC] at hok
 obtain ⟨⟨⟨⟨⟨⟨h1,h2⟩,h3⟩,h4⟩,h5⟩,h6⟩,h7⟩:=hok
 have hps:=b4c h2
 simp only [MWP] at h
 split at h
 case h_2=>exact h.elim
 rename_i gf caps hev
 have hv:=Opd.vr hR h1
 rw [hev] at hv
 obtain ⟨lb,ev,hlb,hvl⟩:=hv.fn_inv
 obtain ⟨Hc,xss,pins,α,I,p,ns,⟨hcb,hit⟩,hsc,hpin,hxs,⟨x0,hp0,hs0,hdis⟩,round,hdone⟩:=Lk.out h
 have hRc:=hR.subSt hsc
 obtain ⟨bl,hbl⟩:=d1g g Hc
 have hblw:∀k,k∈bl→k<w.heap.size∧c.free k∧(c.w0.heap.size≤k∨c.M k)∧¬g.S k:=fun k hk=>by
  obtain ⟨id,o,h1,h2,rfl⟩:=(hbl k).1 hk
  exact ⟨(hRc.hp.obj id o h1).block h2,(hRc.fr.own id o h1 h2).2,(hRc.fr.own id o h1 h2).1,hRc.hp.sep id o h1 h2⟩
 refine wpIn_rangeFunc ?_
 intro fn _
 obtain ⟨rec,hrec⟩:∃rec:LoopState→Option Code→Loop,rec=fun st pe=>{ state:=st,pending:=pe,fn,tmps:=ac.tmps,params:=qs,assign:=casg,body:=cbody,defers:=w.heap.size }:=⟨_,rfl⟩
 obtain ⟨W1,hW1⟩:∃W1,(w.alloc (.deferred (some []))).alloc (.loop (rec .ready none))=W1:=⟨_,rfl⟩
 have hsz1:W1.heap.size=w.heap.size+2:=by rw [←hW1];simp
 have hL1:W1.heap[w.heap.size+1]?=some (.loop (rec .ready none)):=by
  rw [←hW1];have:=World.alloc_heap_new (w.alloc (.deferred (some []))) (.loop (rec .ready none));rwa [World.size_alloc] at this
 have hK1:W1.heap[w.heap.size]?=some (.deferred (some [])):=by
  rw [←hW1];exact (Below.heap_alloc _ _ _ (by simp)).trans (World.alloc_heap_new w _)
 have hO1:∀k,k<w.heap.size→W1.heap[k]?=w.heap[k]?:=fun k hk=>by
  rw [←hW1];exact (Below.heap_alloc _ _ _ (by simp;omega)).trans (Below.heap_alloc _ _ _ hk)
 obtain ⟨cJ,hcJ⟩:∃cJ:(Nat→Obj)→LoopState→Option Code→Ctx,cJ=fun cs st pe=>{ c with H0:=b7l c.H0 pins,gp:=g,wp:=w,dfr:=[],kp:=(w.heap.size+1,.loop (rec st pe))::(w.heap.size,.deferred (some []))::(bl.map (fun b=>(b,cs b))++c.kp) }:=⟨_,rfl⟩
 have hkpw:∀k o,(k,o)∈c.kp→k<w.heap.size:=fun k o ho=>(zF.1 (hR.dfr.2.1 k o ho).2).1
 have hkpt:∀(cs:Nat→Obj) k o,(k,o)∈(w.heap.size,Obj.deferred (some []))::(bl.map (fun b=>(b,cs b))++c.kp)→k≠w.heap.size+1:=fun cs k o ho=>by
  rcases wV.1 ho with e|ho
  ·cases e;omega
  rcases wJ.1 ho with ho|ho
  ·obtain ⟨q,hq,e⟩:=vD.1 ho
   cases e;have:=(hblw k hq).1;omega
  ·have:=hkpw k o ho;omega
 have hkp2:∀(cs:Nat→Obj) k o,(k,o)∈(w.heap.size,Obj.deferred (some []))::c.kp→(k,o)∈(w.heap.size,Obj.deferred (some []))::(bl.map (fun b=>(b,cs b))++c.kp):=fun cs k o ho=>by
  rcases wV.1 ho with e|ho
  ·rw [e];exact xH
  ·exact xB _ (zT _ ho)
 have hfree:∀cs st pe k,(cJ cs st pe).free k↔(k≠w.heap.size+1∧k≠w.heap.size∧k∉bl∧c.free k):=fun cs st pe k=>by
  rw [hcJ]
  constructor
  ·intro h
   exact ⟨fun e=>h _ (by rw [e];exact xH),fun e=>h _ (by rw [e];exact xB _ xH),fun e=>h (cs k) (xB _ (xB _ (List.mem_append_left _ (vD.2 ⟨k,e,rfl⟩)))),fun o ho=>h o (xB _ (xB _ (zT _ ho)))⟩
  ·rintro ⟨e1,e2,e4,e3⟩ o ho
   rcases wV.1 ho with e|ho
   ·exact e1 (by cases e;rfl)
   rcases wV.1 ho with e|ho
   ·exact e2 (by cases e;rfl)
   rcases wJ.1 ho with ho|ho
   ·obtain ⟨q,hq,e⟩:=vD.1 ho
    cases e;exact e4 hq
   ·exact e3 o ho
 have hsupJ:∀{cs st pe gb W HH},Frm (cJ cs st pe) gb W HH→∀k,g.S k→gb.S k:=fun hf k hS=>hf.sup k (.inr (by rw [hcJ];exact hS))
 have hparJ:∀{cs st pe gb W HH},Frm (cJ cs st pe) gb W HH→∀cs' st' pe' id o,find id (cJ cs' st' pe').H0=some o→(cJ cs' st' pe').gp.agree gb id:=fun hf cs' st' pe' id o ho=>by
  have:=hf.par id o (by rw [hcJ] at ho ⊢;exact ho)
  rw [hcJ] at this ⊢;exact this
 have turn:∀{cs st pe gb W HH} (st':LoopState) (pe':Option Code),a3p P gb W HH→Frm (cJ cs st pe) gb W HH→Dfr (cJ cs st pe) W [] →
   a3p P gb (W.putObj (w.heap.size+1) (.loop (rec st' pe'))) HH∧Frm (cJ cs st' pe') gb (W.putObj (w.heap.size+1) (.loop (rec st' pe'))) HH∧Dfr (cJ cs st' pe') (W.putObj (w.heap.size+1) (.loop (rec st' pe'))) []∧a2d gb.S W (W.putObj (w.heap.size+1) (.loop (rec st' pe'))):=by
  intro cs st pe gb W HH st' pe' hh hf hd
  obtain ⟨k1,k2,k3⟩:=b95 (c2:=cJ cs st' pe') (w':=W.putObj (w.heap.size+1) (.loop (rec st' pe'))) hh hf hd (by rw [hcJ]) (by rw [hcJ]) (by rw [hcJ]) (fun k hS=>hsupJ hf k (by rw [hcJ] at hS;exact hS)) (hparJ hf cs st' pe') rfl rfl rfl (by simp)
   (fun k _ hk=>World.putObj_heap_other ((hfree cs st pe k).1 hk).1) (fun k _ _ hk=>(hfree cs st' pe' k).2 ((hfree cs st pe k).1 hk))
  have hl:W.heap[w.heap.size+1]?=some (.loop (rec st pe)):=(hd.2.1 _ _ (by rw [hcJ];exact xH)).2
  refine ⟨k1,k2,⟨by rw [hcJ],fun k o ho=>?_,fun k hS=>?_⟩,k3⟩
  ·rw [hcJ] at ho
   rcases wV.1 ho with e|ho'
   ·cases e
    exact ⟨by have:=(hd.2.1 (w.heap.size+1) _ (by rw [hcJ];exact xH)).1;rw [hcJ] at this ⊢;exact this,World.putObj_heap_same (zF.1 hl).1⟩
   ·have hne:k≠w.heap.size+1:=hkpt cs k o ho'
    have:=hd.2.1 k o (by rw [hcJ];exact xB _ ho')
    refine ⟨?_,(World.putObj_heap_other hne).trans this.2⟩
    have h0:=this.1
    rw [hcJ] at h0 ⊢;exact h0
  ·rw [hcJ] at hS
   have h0:=hd.2.2 k (by rw [hcJ];exact hS)
   refine (k3 k (hsupJ hf k hS)).trans ?_
   rw [hcJ] at h0 ⊢;exact h0
 obtain ⟨J,hJ⟩:∃J:Nat→World→Prop,J=fun k W=>∃cs gb y,p k y∧(⟨[],I k y⟩:St).good=true∧a3p P gb W (I k y)∧Frm (cJ cs .ready none) gb W (I k y)∧Dfr (cJ cs .ready none) W []:=⟨_,rfl⟩
 obtain ⟨Jx,hJx⟩:∃Jx:World→Prop,Jx=fun W=>∃cs gb HH jump,((jump=Code.ret∧R ⟨σ.env,HH⟩)∨∃i,jump=Code.exit i∧X i ⟨σ.env,HH⟩)∧a3p P gb W HH∧Frm (cJ cs .done (some jump)) gb W HH∧Dfr (cJ cs .done (some jump)) W []:=⟨_,rfl⟩
 have still:∀{cs st pe gb HH W W'},a3p P gb W HH→Frm (cJ cs st pe) gb W HH→Dfr (cJ cs st pe) W []→d1w (d5s g Hc) W W'→∃cs',a3p P gb W' HH∧Frm (cJ cs' st pe) gb W' HH∧Dfr (cJ cs' st pe) W' []:=by
  intro cs st pe gb HH W W' hh hf hd ⟨i1,i2,i3,i4,i5⟩
  obtain ⟨cs',hcs'⟩:∃cs':Nat→Obj,cs'=fun k=>(W'.heap[k]?).getD (.deferred none):=⟨_,rfl⟩
  have hfr:∀k,(cJ cs st pe).free k→(cJ cs' st pe).free k:=fun k h=>(hfree cs' st pe k).2 ((hfree cs st pe k).1 h)
  obtain ⟨k1,k2,k3⟩:=b95 (c2:=cJ cs' st pe) hh hf hd (by rw [hcJ]) (by rw [hcJ]) (by rw [hcJ]) (fun k hS=>hsupJ hf k (by rw [hcJ] at hS;exact hS)) (hparJ hf cs' st pe) i1 i2 i3 i4 (fun k hk hfk=>i5 k hk fun hb=>((hfree cs st pe k).1 hfk).2.2.1 ((hbl k).2 hb)) (fun k _ _ h=>hfr k h)
  have hW:∀k o,(k,o)∈(cJ cs st pe).kp→k<W.heap.size:=fun k o ho=>(zF.1 (hd.2.1 k o ho).2).1
  refine ⟨cs',k1,k2,by rw [hcJ],fun k o ho=>?_,fun k hS=>(k3 k (hsupJ hf k (by rw [hcJ] at hS;exact hS))).trans (by have:=hd.2.2 k (by rw [hcJ] at hS ⊢;exact hS);rw [hcJ] at this ⊢;exact this)⟩
  have out:k∉bl→(k,o)∈(cJ cs st pe).kp→((cJ cs' st pe).w0.heap.size≤k∨(cJ cs' st pe).M k)∧W'.heap[k]?=some o:=fun hk hm=>by
   have:=hd.2.1 k o hm
   refine ⟨?_,(i5 k (hW k o hm) fun hb=>hk ((hbl k).2 hb)).trans this.2⟩
   have h0:=this.1
   rw [hcJ] at h0 ⊢;exact h0
  rw [hcJ] at ho
  rcases wV.1 ho with e|ho
  ·cases e
   exact out (fun hk=>by have:=(hblw _ hk).1;omega) (by rw [hcJ];exact xH)
  rcases wV.1 ho with e|ho
  ·cases e
   exact out (fun hk=>by have:=(hblw _ hk).1;omega) (by rw [hcJ];exact xB _ xH)
  rcases wJ.1 ho with ho|ho
  ·obtain ⟨q,hq,e⟩:=vD.1 ho
   cases e
   have hlt:=hW k (cs k) (by rw [hcJ];exact xB _ (xB _ (List.mem_append_left _ (vD.2 ⟨k,hq,rfl⟩))))
   have hlt':k<W'.heap.size:=by omega
   refine ⟨by rw [hcJ];exact (hblw k hq).2.2.1,?_⟩
   simp only [hcs',zI hlt',xX]
  ·exact out (fun hk=>(hblw _ hk).2.1 o ho) (by rw [hcJ];exact xB _ (xB _ (zT _ ho)))
 have fin:∀{cs st pe gb HH W} (o:Obj),a3p P gb W HH→Frm (cJ cs st pe) gb W HH→Dfr (cJ cs st pe) W [] →
   ∃c2,c.le c2∧Rel P c2 gb ⟨σ.env,HH⟩ { ac with defers:=[{ target:=.collected w.heap.size,args:=#[] }]++ac.defers } (W.putObj (w.heap.size+1) o):=by
  intro cs st pe gb HH W o hh hf hd
  refine ⟨{ c with dfr:={ target:=.collected w.heap.size,args:=#[] }::c.dfr,kp:=(w.heap.size,.deferred (some []))::c.kp },⟨rfl,rfl,rfl,rfl,rfl,rfl,rfl,⟨[_],rfl⟩,⟨[w.heap.size],rfl,by simp,fun D hD=>?_⟩⟩,?_⟩
  ·simp at hD;subst hD
   exact ⟨xH,fun o ho=>by have:=hkpw _ o ho;omega⟩
  have hgS:∀k,c.gp.S k→g.S k:=fun k hS=>hR.fr.sup k (.inr hS)
  obtain ⟨k1,k2,k3⟩:=b95 (c2:={ c with dfr:={ target:=.collected w.heap.size,args:=#[] }::c.dfr,kp:=(w.heap.size,.deferred (some []))::c.kp }) (w':=W.putObj (w.heap.size+1) o) hh hf hd (by rw [hcJ]) (by rw [hcJ]) (by rw [hcJ])
   (fun k hS=>hsupJ hf k (hgS k hS)) (fun id o1 ho=>(hR.fr.par id o1 ho).trans (by
    obtain ⟨o2,h2⟩:=(b0n (H0:=c.H0) (pins:=pins) (id:=id)).2 (.inr ⟨o1,ho⟩)
    have:=hparJ hf cs st pe id o2 (by rw [hcJ];exact h2)
    rw [hcJ] at this;exact this)) rfl rfl rfl (by simp) (fun k _ hk=>World.putObj_heap_other ((hfree cs st pe k).1 hk).1)
   (fun k _ _ hk o1 ho=>by
    obtain ⟨_,e2,_,e3⟩:=(hfree cs st pe k).1 hk
    rcases wV.1 ho with e|ho
    ·cases e;exact e2 rfl
    ·exact e3 o1 ho)
  have hkS:a2d g.S w (W.putObj (w.heap.size+1) o):=fun k hS=>(k3 k (hsupJ hf k hS)).trans (by have:=hd.2.2;rw [hcJ] at this;exact this k hS)
  refine ⟨hR.size,⟨by rw [hR.dfr.1];rfl,fun k o1 ho=>?_,fun k hS=>(hkS k (hgS k hS)).trans (hR.dfr.2.2 k hS)⟩,fun t x hx=>?_,k1,k2⟩
  ·have hne:k≠w.heap.size+1:=by
    rcases wV.1 ho with e|ho'
    ·cases e;omega
    ·have:=hkpw k o1 ho';omega
   have:=hd.2.1 k o1 (by rw [hcJ];exact xB _ (hkp2 cs k o1 ho))
   refine ⟨?_,(World.putObj_heap_other hne).trans this.2⟩
   have h0:=this.1
   rw [hcJ] at h0;exact h0
  ·obtain ⟨q1,q2⟩:=hR.env t x hx
   refine ⟨q1,q2.mono hkS (hsupJ hf) fun id hid=>?_⟩
   obtain ⟨o2,h2⟩:=(b0n (H0:=c.H0) (pins:=pins) (id:=id)).2 (.inl (a2w (b29 hpin hx) hid))
   have:=hparJ hf cs st pe id o2 (by rw [hcJ];exact h2)
   rw [hcJ] at this;exact this
 obtain ⟨cs0,hcs0⟩:∃cs0:Nat→Obj,cs0=fun k=>(W1.heap[k]?).getD (.deferred none):=⟨_,rfl⟩
 have h0:J 0 W1:=by
  rw [hJ]
  have hR0:a3p P g w (I 0 x0)∧Frm c g w (I 0 x0):=by
   have:=hR.subSt hs0
   exact ⟨this.hp,this.fr⟩
  have hnb:∀k,(g.S k∨d5s g (I 0 x0) k)→k∉bl:=fun k hk hb=>by
   rcases hk with hk|⟨id,o,h1,h2,rfl⟩
   ·exact (hblw k hb).2.2.2 hk
   ·obtain ⟨id',o',h3,h4,h5⟩:=(hbl _).1 hb
    have e:=hR.hp.inj id' id o' o (a8j hsc.2.2 h3) (a8j hs0.2.2 h1) h4 h2 h5
    subst e
    have:=hdis (id',o') (b82 h3)
    rw [h1] at this;cases this
  obtain ⟨k1,k2,k3⟩:=b95 (c2:=cJ cs0 .ready none) (w':=W1) hR0.1 hR0.2 hR.dfr (by rw [hcJ]) (by rw [hcJ]) (by rw [hcJ]) (fun k hS=>by rw [hcJ] at hS;exact hS) (fun id o _=>by rw [hcJ];exact Gh.agree.refl g id) (by rw [←hW1];rfl) (by rw [←hW1];rfl) (by rw [←hW1];rfl) (by omega)
   (fun k hk _=>hO1 k hk) (fun k hk hb hf=>(hfree _ _ _ k).2 ⟨by omega,by omega,hnb k hb,hf⟩)
  refine ⟨cs0,g,x0,hp0,hs0.1,k1,k2,by rw [hcJ],fun k o ho=>?_,fun k hS=>?_⟩
  ·rw [hcJ] at ho
   have hle:=hR.fr.size
   rcases wV.1 ho with e|ho
   ·cases e;exact ⟨.inl (by rw [hcJ];show c.w0.heap.size≤_;omega),hL1⟩
   rcases wV.1 ho with e|ho
   ·cases e;exact ⟨.inl (by rw [hcJ];exact hle),hK1⟩
   rcases wJ.1 ho with ho|ho
   ·obtain ⟨q,hq,e⟩:=vD.1 ho
    cases e
    have hlt:=(hblw k hq).1
    refine ⟨by rw [hcJ];exact (hblw k hq).2.2.1,?_⟩
    have hlt':k<W1.heap.size:=by omega
    simp only [hcs0,zI hlt',xX]
   ·refine ⟨by rw [hcJ];exact (hR.dfr.2.1 k o ho).1,(hO1 k (hkpw k o ho)).trans (hR.dfr.2.1 k o ho).2⟩
  ·rw [hcJ] at hS ⊢;exact k3 k hS
 have hHR1:a3p P g W1 Hc∧a2d g.S w W1:=by
  have:=a3p.other (w':=W1) hRc.hp hRc.fr (by omega) fun k hk _=>hO1 k hk
  exact this
 have pinag:∀{cs st pe gb W HH},Frm (cJ cs st pe) gb W HH→∀t x,find t σ.env=some x→∀id,x.has id=true→g.agree gb id:=fun hf t x hx id hid=>by
  obtain ⟨o2,h2⟩:=(b0n (H0:=c.H0) (pins:=pins) (id:=id)).2 (.inl (a2w (b29 hpin hx) hid))
  have:=hparJ hf cs0 .ready none id o2 (by rw [hcJ];exact h2)
  rw [hcJ] at this;exact this
 have recAt:∀{cs st pe W ds},Dfr (cJ cs st pe) W ds→W.heap[w.heap.size+1]?=some (.loop (rec st pe)):=fun hd=>(hd.2.1 _ _ (by rw [hcJ];exact xH)).2
 have keepJ:∀{cs st pe W ds},Dfr (cJ cs st pe) W ds→a2d g.S w W:=fun hd=>by have:=hd.2.2;rw [hcJ] at this;exact this
 have rs:∀st pe st' pe',({ rec st pe with state:=st',pending:=pe' }:Loop)=rec st' pe':=fun _ _ _ _=>by rw [hrec]
 have rs1:∀st pe st',({ rec st pe with state:=st' }:Loop)=rec st' pe:=fun _ _ _=>by rw [hrec]
 refine ⟨w.heap.size+1,[{ target:=.collected w.heap.size,args:=#[] }],W1,{ target:=.fn (.func gf) lb,args:=#[.func (.yield (w.heap.size+1)) #[] #[]] },W1,gf,#[.func (.yield (w.heap.size+1)) #[] #[]]++lb,W1,?_,?_,fun _ _=>trivial,?_,fun hh=>by simp [WF,Fence.wide] at hh,?_⟩
 ·rw [←hW1,hrec];exact run_enterLoop_outer _ _ _ _ _
 ·simp only [resolve,ev]
  simp [Deferred.ofValue]
  rfl
 ·unfold callable at hcb
  split at hcb
  ·rename_i fn' hfn'
   simp only [wC,xW] at hcb
   have hnm:¬fn'.name = "runtime.NumGoroutine":=by simpa using hcb.1
   have hbb:¬fn'.body=none:=by intro h;rw [h] at hcb;simp at hcb
   simp [invoke,callFunc,hfn',hnm,hbb]
  ·cases hcb
 ·refine ((hit g W1 lb hHR1.1 hlb (fun i x hx=>(hvl i x hx).mono (g':=g) hHR1.2 (fun _ h=>h) fun _ _=>Gh.agree.refl _ _) (w.heap.size+1) J Jx ?_ ?_ ?_ h0).more (vG _)).mono ?_
  ·intro k W W' hj hs
   rw [hJ] at hj ⊢
   obtain ⟨cs,gb,y,hp,hgd,hh,hf,hd⟩:=hj
   obtain ⟨cs',k1,k2,k3⟩:=still hh hf hd hs
   exact ⟨cs',gb,y,hp,hgd,k1,k2,k3⟩
  ·intro W W' hj hs
   rw [hJx] at hj ⊢
   obtain ⟨cs,gb,HH,jump,hj,hh,hf,hd⟩:=hj
   obtain ⟨cs',k1,k2,k3⟩:=still hh hf hd hs
   exact ⟨cs',gb,HH,jump,hj,k1,k2,k3⟩
  ·intro k xs W vals hxk hvs hvv hj
   rw [hJ] at hj
   obtain ⟨cs,gb,y,hp,hgd,hh,hf,hd⟩:=hj
   have hl:=recAt hd
   obtain ⟨hxl,hxw⟩:=hxs xs (z7 hxk)
   have hy:=run_yield (P:=P) (args:=vals) hl (by rw [hrec];show vals.size=qs.size;rw [hvs,hxl,hps];simp)
   rw [hrec] at hy
   refine ⟨_,_,_,_,hy,roundIn_of_wpIn trivial ?_⟩
   have hE0:c6z c.nt gb W ac.tmps σ.env:=fun t x hx=>by
    obtain ⟨q1,q2⟩:=hR.env t x hx
    exact ⟨q1,q2.mono (keepJ hd) (hsupJ hf) (pinag hf t x hx)⟩
   obtain ⟨hE,hEs⟩:=hE0.puts (ps:=ps) (xs:=xs) (vs:=vals.toList) hR.size (c4u h3) (by simp [hvs]) (fun i x hx=>by
    have:=(hvv i x hx).mono (g':=gb) (fun _ _=>rfl) (hsupJ hf) fun id hid=>absurd (a2w (a3g.1 hxw x (z7 hx)) hid) (by simp)
    simpa [zC] using this)
   have hfold:(qs.zip vals).foldl (fun t (q,v)=>t.setIfInBounds q v) ac.tmps=(ps.zip vals.toList).foldl (fun t (p,v)=>t.setIfInBounds p v) ac.tmps:=by
    rw [←Array.foldl_toList,Array.toList_zip,hps]
   have hRb:Rel P (cJ cs .ready none) gb ⟨b5m ps xs σ.env,I k y⟩ { tmps:=(qs.zip vals).foldl (fun t (q,v)=>t.setIfInBounds q v) ac.tmps,defers:=[] } W:=by
    refine ⟨?_,hd,?_,hh,hf⟩
    ·show ((qs.zip vals).foldl _ ac.tmps).size=_
     rw [hfold,hEs,hcJ]
    ·show c6z _ gb W ((qs.zip vals).foldl _ ac.tmps) _
     rw [hfold,hcJ];exact hE
   have hfacts:b0p (I k y):=by
    have:Rel P (cJ cs .ready none) gb ⟨[],I k y⟩ { tmps:=(qs.zip vals).foldl (fun t (q,v)=>t.setIfInBounds q v) ac.tmps,defers:=[] } W:=⟨hRb.size,hRb.dfr,fun _ _ h=>(by cases h),hh,hf⟩
    exact (this.factsSt hgd).2
   have hm:=round k y xs hxk hp hfacts
   have hH0:∀cs st pe,(cJ cs st pe).H0=b7l c.H0 pins:=fun _ _ _=>by rw [hcJ]
   have hnt:∀cs st pe,(cJ cs st pe).nt=c.nt:=fun _ _ _=>by rw [hcJ]
   rw [←hH0 cs .ready none] at hm
   refine ha (w.heap.size+1) h4 (c:=cJ cs .ready none) (a8h.of_nh (MC.flat_nh h4)) (fun _ _ h=>h) (by rw [hnt];exact h6) hRb hm (fun c1 σ1 g1 a1 w1 hl1 hk1 hr1=>?_) (fun _ _ _ _ _ _ _ h=>h.elim) (fun _ _ _ _ _ _ h=>h.elim)
   obtain ⟨f1,d1⟩:=c26 hl1 hr1.hp hr1.fr hr1.dfr
   have d1':Dfr (cJ cs .ready none) w1 []:=by rw [hcJ] at d1 ⊢;exact d1
   obtain ⟨t1,t2,t3,t4⟩:=turn .busy none hr1.hp f1 d1'
   refine ⟨_,run_beginRound (recAt d1') (by rw [hrec]),?_⟩
   rw [rs1]
   obtain ⟨c2,hc2⟩:∃c2:Ctx,c2={ cJ cs .busy none with dfr:=a1.defers }:=⟨_,rfl⟩
   have toJ:∀{gx Wx Hx ds},a3p P gx Wx Hx→Frm c2 gx Wx Hx→Dfr c2 Wx ds→Frm (cJ cs .busy none) gx Wx Hx∧Dfr (cJ cs .busy none) Wx []:=fun hh hf hd=>by
    rw [hc2] at hf hd
    exact ⟨⟨hf.os,hf.tape,hf.output,hf.size,hf.old,hf.own,hf.sup,hf.sub,hf.par⟩,⟨by rw [hcJ],hd.2⟩⟩
   have hR2:Rel P c2 g1 σ1 a1 (w1.putObj (w.heap.size+1) (.loop (rec .busy none))):=by
    rw [hc2]
    refine ⟨?_,⟨rfl,t3.2⟩,fun t x hx=>?_,t1,⟨t2.os,t2.tape,t2.output,t2.size,t2.old,t2.own,t2.sup,t2.sub,t2.par⟩⟩
    ·rw [hr1.size,hl1.nt,hnt];exact (hnt cs .busy none).symm
    ·obtain ⟨q1,q2⟩:=hr1.env t x hx
     refine ⟨?_,q2.mono (g':=g1) t4 (fun _ h=>h) fun _ _=>Gh.agree.refl _ _⟩
     rw [hl1.nt,hnt] at q1
     show t<(cJ cs .busy none).nt
     rw [hnt];exact q1
   have h20:c2.H0=b7l c.H0 pins:=by rw [hc2];exact hH0 cs .busy none
   have h2n:c2.nt=c.nt:=by rw [hc2];exact hnt cs .busy none
   rw [hH0,←h20] at hk1
   have leave:∀(jump:Code) {c3:Ctx} {σ3:St} {g3:Gh} {a3:Act} {w3:World},c2.le c3→Rel P c3 g3 σ3 a3 w3→((jump=Code.ret∧R ⟨σ.env,σ3.heap⟩)∨∃i,jump=Code.exit i∧X i ⟨σ.env,σ3.heap⟩) →
     ∃v w',(Instr.endRound (w.heap.size+1) (some jump)).run P w3=.ok v w'∧((Ending.returned v=.returned (.bool true)∧J (k+1) w'∧d7w g Hc W w')∨(Ending.returned v=.returned (.bool false)∧Jx w')):=by
    intro jump c3 σ3 g3 a3 w3 hl3 hr3 hj
    obtain ⟨f3,d3⟩:=c26 hl3 hr3.hp hr3.fr hr3.dfr
    obtain ⟨f3,d3⟩:=toJ hr3.hp f3 d3
    obtain ⟨t1,t2,t3,t4⟩:=turn .done (some jump) hr3.hp f3 d3
    have hrun:=run_endRound (P:=P) (some jump) (recAt d3)
    simp only [Option.isNone_some,xM,if_false,rs] at hrun
    refine ⟨_,_,hrun,.inr ⟨rfl,?_⟩⟩
    rw [hJx]
    exact ⟨cs,g3,σ3.heap,jump,hj,t1,t2,t3⟩
   refine hb (w.heap.size+1) h5 (c:=c2) (a8h.of_nh (MC.flat_nh h5)) (fun _ _ h=>h) (by rw [h2n];exact h7) hR2 hk1 (fun c3 σ3 g3 a3 w3 hl3 hk3 hr3=>?_) (fun c3 i σ3 g3 a3 w3 hl3 hk3 hr3=>?_) (fun c3 σ3 g3 a3 w3 hl3 hk3 hr3=>?_)
   ·have hk3:=Lk.out hk3
    rw [←hl3.H0] at hk3
    obtain ⟨g4,σ4,⟨y',hp',hs'⟩,hr4⟩:=a8n hk3 hr3
    have hr4:=hr4.subSt hs'
    obtain ⟨f3,d3⟩:=c26 hl3 hr4.hp hr4.fr hr4.dfr
    obtain ⟨f3,d3⟩:=toJ hr4.hp f3 d3
    obtain ⟨t1,t2,t3,t4⟩:=turn .ready none hr4.hp f3 d3
    have hrun:=run_endRound (P:=P) none (recAt d3)
    simp only [Option.isNone_none,if_true,rs] at hrun
    refine ⟨_,_,hrun,.inl ⟨rfl,?_,fun q hS=>(keepJ t3 q hS).trans (keepJ hd q hS).symm,?_⟩⟩
    ·rw [hJ];exact ⟨cs,g4,y',hp',hs'.1,t1,t2,t3⟩
    ·intro q hq
     have hm:∀st pe,(q,cs q)∈(cJ cs st pe).kp:=fun st pe=>by
      rw [hcJ];exact xB _ (xB _ (List.mem_append_left _ (vD.2 ⟨q,(hbl q).2 hq,rfl⟩)))
     rw [(t3.2.1 q _ (hm _ _)).2,(hd.2.1 q _ (hm _ _)).2]
   ·exact leave (.exit i) hl3 hr3 (.inr ⟨i,rfl,hk3⟩)
   ·exact leave .ret hl3 hr3 (.inl ⟨rfl,hk3⟩)
  ·rintro e W' ⟨⟨v,rfl⟩,hj|hj⟩
   ·rw [hJ] at hj
    obtain ⟨cs,gb,y,hp,hgd,hh,hf,hd⟩:=hj
    obtain ⟨c2,hl2,hr2⟩:=fin (.loop { rec .ready none with state:=.exhausted }) hh hf hd
    exact ⟨none,_,by have:=run_endLoop (P:=P) (recAt hd) (by rw [hrec];simp);rw [hrec] at this ⊢;exact this,hK c2 _ _ _ _ hl2 (hdone y hp) hr2⟩
   ·rw [hJx] at hj
    obtain ⟨cs,gb,HH,jump,hj,hh,hf,hd⟩:=hj
    have hrun:=run_endLoop (P:=P) (recAt hd) (by rw [hrec];simp)
    have hpe:(rec .done (some jump)).pending=some jump:=by rw [hrec]
    rw [hpe] at hrun
    obtain ⟨oo,hrun⟩:∃oo,(Instr.endLoop (w.heap.size+1)).run P W'=.ok (some jump) (W'.putObj (w.heap.size+1) oo):=⟨_,hrun⟩
    obtain ⟨c2,hl2,hr2⟩:=fin oo hh hf hd
    refine ⟨some jump,_,hrun,?_⟩
    rcases hj with ⟨rfl,hj⟩|⟨i,rfl,hj⟩
    ·exact wpIn_ret (hT c2 _ _ _ _ hl2 hj hr2)
    ·exact wpIn_exit (hX c2 i _ _ _ _ hl2 hj hr2)
theorem MC.sound {r:Option Nat}:∀(mc:MC),(r=none∨mc.flat=true)→d66 P r mc
 | .skip,_=>by
  intro n c code Q K X R g σ a w hN hQ hok hR h hK hX hT
  cases code<;>try (simp [MC.ok] at hok;done)
  exact wpIn_skip (hK c σ g a w (.refl c) h hR)
 | .ret,_=>by
  intro n c code Q K X R g σ a w hN hQ hok hR h hK hX hT
  cases code<;>try (simp [MC.ok] at hok;done)
  exact wpIn_ret (hT c σ g a w (.refl c) h hR)
 | .exit i,_=>by
  intro n c code Q K X R g σ a w hN hQ hok hR h hK hX hT
  cases code<;>try (simp [MC.ok] at hok;done)
  have e:=zR hok;subst e
  exact wpIn_exit (hX c i σ g a w (.refl c) h hR)
 | .reg ms,_=>by
  intro n c code Q K X R g σ a w hN hQ hok hR h hK hX hT
  cases code<;>try (simp [MC.ok] at hok;done)
  simp only [MC.ok,wC,xW] at hok
  obtain ⟨⟨h1,h0⟩,h2⟩:=hok
  subst h1
  exact c8m h0 hQ (hK c · · · · (.refl c)) h2 hR h
 | .regI ms,_=>by
  intro n c code Q K X R g σ a w hN hQ hok hR h hK hX hT
  cases code<;>try (simp [MC.ok] at hok;done)
  simp only [MC.ok,wC,xW] at hok
  obtain ⟨⟨h1,h0⟩,h2⟩:=hok
  subst h1
  exact c5o h0 hQ (hK c · · · · (.refl c)) h2 hR h
 | .regD ms aft anc,_=>by
  intro n c code Q K X R g σ a w hN hQ hok hR h hK hX hT
  cases code<;>try (simp [MC.ok] at hok;done)
  simp only [MC.ok,wC] at hok
  obtain ⟨⟨⟨⟨⟨⟨h1,h0⟩,h2⟩,h3⟩,h4⟩,h5⟩,h6⟩:=hok
  subst h1
  exact c5p h0 hQ h2 (hK c · · · · (.refl c)) h3 h4 h5 h6 hR h
 | .seq x y,hf=>by
  intro n c code Q K X R g σ a w hN hQ hok hR h hK hX hT
  cases code<;>try (simp [MC.ok] at hok;done)
  simp only [MC.ok,wC] at hok
  simp only [MC.flat,wC] at hf
  refine wpIn_seq (MC.sound x (hf.imp id And.left) (Q:=Exit.then _ Q) hN.1 hQ hok.1 hR h (fun c' σ g a w hl hk hr=>?_) hX hT)
  rw [←hl.nt] at hok
  rw [←hl.H0] at hk
  exact MC.sound y (hf.imp id And.right) (hN.2.mono hl) hQ hok.2 hr hk (fun c2 σ g a w hl2=>hK c2 σ g a w (hl.trans hl2)) (fun c2 i σ g a w hl2=>hX c2 i σ g a w (hl.trans hl2)) (fun c2 σ g a w hl2=>hT c2 σ g a w (hl.trans hl2))
 | .cut x y,hf=>by
  intro n c code Q K X R g σ a w hN hQ hok hR h hK hX hT
  cases code<;>try (simp [MC.ok] at hok;done)
  simp only [MC.ok,wC] at hok
  simp only [MC.flat,wC] at hf
  obtain ⟨α,I,p,ns,h1,h2⟩:=Lk.out h
  refine wpIn_seq (MC.sound x (hf.imp id And.left) (Q:=Exit.then _ Q) hN.1 hQ hok.1 hR h1 (fun c' σ g a w hl hk hr=>?_) hX hT)
  have hk:=Lk.out hk
  rw [←hl.H0] at hk
  obtain ⟨g,σ,⟨z,hz,hs⟩,hr⟩:=a8n hk hr
  have hr':=hr.subSt hs
  have h3:=h2 z hz (hr'.factsSt hs.1)
  rw [←hl.nt] at hok
  rw [←hl.H0] at h3
  exact MC.sound y (hf.imp id And.right) (hN.2.mono hl) hQ hok.2 hr' h3 (fun c2 σ g a w hl2=>hK c2 σ g a w (hl.trans hl2)) (fun c2 i σ g a w hl2=>hX c2 i σ g a w (hl.trans hl2)) (fun c2 σ g a w hl2=>hT c2 σ g a w (hl.trans hl2))
 | .cond x t e,hf=>by
  intro n c code Q K X R g σ a w hN hQ hok hR h hK hX hT
  cases code<;>try (simp [MC.ok] at hok;done)
  simp only [MC.ok,wC] at hok
  simp only [MC.flat,wC] at hf
  simp only [MWP] at h
  split at h
  case h_2=>exact h.elim
  rename_i b hb
  have hv:=Opd.vr hR hok.1.1
  rw [hb] at hv
  obtain ⟨h1,h2⟩:=h
  cases b with
  | true =>
   have h1:=h1 rfl
   rw [c09 hR hb] at h1
   exact wpIn_cond_true hv.bool_inv (MC.sound t (hf.imp id And.left) hN.1 hQ hok.1.2 hR h1 hK hX hT)
  | false =>
   have h2:=h2 rfl
   rw [c09 hR hb] at h2
   exact wpIn_cond_false hv.bool_inv (MC.sound e (hf.imp id And.right) hN.2 hQ hok.2 hR h2 hK hX hT)
 | .block i b,hf=>by
  intro n c code Q K X R g σ a w hN hQ hok hR h hK hX hT
  cases code<;>try (simp [MC.ok] at hok;done)
  simp only [MC.ok,wC] at hok
  have e:=zR hok.1;subst e
  refine wpIn_block (MC.sound b hf (Q:=Exit.inBlock i Q) hN hQ hok.2 hR h hK (fun c' j σ g a w hl hx hr=>?_) hT)
  simp only [Exit.inBlock]
  cases hb:Nat.beq j i with
  | true =>
   have e:=zR hb;subst e
   rw [hb] at hx
   simp only [if_true]
   exact hK c' σ g a w hl hx hr
  | false =>
   rw [hb] at hx
   have:j≠i:=fun e=>by rw [e,vB] at hb;cases hb
   simp only [this,if_false]
   exact hX c' j σ g a w hl hx hr
 | .loop b,hf=>by
  intro n c code Q K X R g σ a w hN hQ hok hR h hK hX hT
  cases code<;>try (simp [MC.ok] at hok;done)
  simp only [MC.ok] at hok
  obtain ⟨α,I,p,μ,ns,h0,round⟩:=Lk.out h
  obtain ⟨g,σ,⟨x0,hp0,hs0⟩,hR⟩:=a8n h0 hR
  refine wpIn_loop' (fun x a w=>p x∧(I x).good=true∧∃c' g,c.le c'∧Rel P c' g (I x) a w) μ ⟨x0,hp0,hs0.1,c,g,.refl c,hR.subSt hs0⟩ ?_
  rintro x a w ⟨hp,hg,c',g,hl,hr⟩
  have h1:=round x hp (hr.factsSt hg)
  rw [←hl.nt] at hok
  rw [←hl.H0] at h1
  refine MC.sound b hf (Q:=Exit.then _ Q) (a8h.mono (mc:=b) hl hN) hQ hok hr h1 (fun c2 σ g a w hl2 hk hr=>?_) (fun c2 i σ g a w hl2=>hX c2 i σ g a w (hl.trans hl2)) (fun c2 σ g a w hl2=>hT c2 σ g a w (hl.trans hl2))
  have hk:=Lk.out hk
  rw [←hl2.H0] at hk
  obtain ⟨g,σ,⟨y,hy,hlt,hs⟩,hr⟩:=a8n hk hr
  exact ⟨y,⟨hy,hs.1,c2,g,hl.trans hl2,hr.subSt hs⟩,hlt⟩
 | .note m b,hf=>by
  intro n c code Q K X R g σ a w hN hQ hok hR h hK hX hT
  have hok':b.ok P c.nt code=true:=by
   unfold MC.ok at hok;exact hok
  obtain ⟨g',σ',h',hR'⟩:=b1t h hR
  exact MC.sound b hf hN hQ hok' hR' h' hK hX hT
 | .hnote T b,hf=>by
  intro n c code Q K X R g σ a w hN hQ hok hR h hK hX hT
  have hok':b.ok P c.nt code=true:=by
   unfold MC.ok at hok;exact hok
  obtain ⟨g',σ',h',hR'⟩:=hN.1 _ c g σ a w (.refl c) hR h
  exact MC.sound b (.inl (hf.resolve_right (by simp [MC.flat]))) hN.2 hQ hok' hR' h' hK hX hT
 | .no,_=>by
  intro n c code Q K X R g σ a w hN hQ hok hR h hK hX hT
  exact h.elim
 | .rngF s ps a b,hf=>by
  have hr:r=none:=hf.resolve_right (by simp [MC.flat])
  subst hr
  exact c5k s ps a b (fun l hl=>MC.sound (r:=some l) a (.inr hl)) (fun l hl=>MC.sound (r:=some l) b (.inr hl))
end
def sel:List Nat→Heap→Heap
 | [],_=>[]
 | n::r,H=>match find n H with
  | some o=>(n,o)::sel r H
  | none=>sel r H
@[go_sem] def c58:List Nat→Heap→Bool
 | [],_=>true
 | n::r,H=>a0s n H&&!mem n r&&c58 r H
def a0g.within (l:List Nat):a0g→Bool
 | .cells cs _=>V.withinL l cs
 | .nmap z _ _ _=>mem z l
 | _=>true
def b1j (l:List Nat):Heap→Bool
 | []=>true
 | (_,o)::r=>o.within l&&b1j l r
@[go_sem] def a4t:Nat→List V→List (Nat×V)
 | _,[]=>[]
 | n,x::r=>(n,x)::a4t (n+1) r
inductive RS where
 | t (s:Nat)
 | c (s:Nat) (n:Option Nat)
@[go_sem] def b04 (σ:St):List RS→(List V→Prop)→Prop
 | [],K=>K []
 | .t s::r,K=>b04 σ r fun vs=>K (get s σ.env::vs)
 | .c s n::r,K=>sLd n (get s σ.env) (fun id=>find id σ.heap) (fun x=>b04 σ r fun vs=>K (x::vs)) (fun x=>b04 σ r fun vs=>K (x::vs))
@[go_sem] def f5h:List V→V
 | [x]=>x
 | xs=>.tup xs
def a6s (P:Program):List RS→List ResultVar→Bool
 | [],[]=>true
 | .t s::r,.tmp t::q=>Nat.beq s t&&a6s P r q
 | .c s n::r,.cell t ty::q=>Nat.beq s t&&decide (c4v P ty=some n)&&a6s P r q
 | _,_=>false
@[go_sem] def f6b (rids:List Nat) (Q:V→Heap→Prop) (σ:St) (v:V):Prop :=
 bif c58 rids σ.heap&&v.within rids&&b1j rids (sel rids σ.heap) then Q v (sel rids σ.heap) else False
@[go_sem] def d5z (rids:List Nat) (rs:List RS) (Q:V→Heap→Prop) (σ:St):Prop:=b04 σ rs fun vs=>f6b rids Q σ (f5h vs)
def a2j (H0:Heap) (ns:List a4y) (rids:List Nat) (rs:List RS) (Q:V→Heap→Prop) (σ:St):Prop:=a0m H0 ns σ (d5z rids rs Q)
section
variable {P:Program}
theorem a6x {n:Nat} {o:a0g}:∀{l:List Nat} {H:Heap},find n (sel l H)=some o→n∈l∧find n H=some o
 | [],_,h=>by cases h
 | m::r,H,h=>by
  simp only [sel] at h
  cases hm:find m H with
  | none =>
   rw [hm] at h
   obtain ⟨h1,h2⟩:=a6x (l:=r) h
   exact ⟨xB _ h1,h2⟩
  | some o' =>
   rw [hm] at h
   simp only [find] at h
   cases hb:Nat.beq n m with
   | true =>
    rw [hb] at h;cases h
    have e:=zR hb;subst e
    exact ⟨xH,hm⟩
   | false =>
    rw [hb] at h
    obtain ⟨h1,h2⟩:=a6x (l:=r) h
    exact ⟨xB _ h1,h2⟩
theorem c3h {n:Nat}:∀{l:List Nat} {H:Heap},c58 l H=true→n∈l→∃o,find n (sel l H)=some o
 | m::r,H,h,hm=>by
  simp only [c58,wC] at h
  obtain ⟨⟨h1,h2⟩,h3⟩:=h
  obtain ⟨o,ho⟩:=a3k.1 h1
  simp only [sel,ho,find]
  cases hb:Nat.beq n m with
  | true=>exact ⟨o,rfl⟩
  | false =>
   rcases wV.1 hm with e|hm
   ·rw [e,vB] at hb;cases hb
   ·exact c3h h3 hm
theorem b2e {l:List Nat} {n:Nat} {o:a0g}:∀{H:Heap},b1j l H=true→find n H=some o→o.within l=true
 | (m,y)::r,h,hf=>by
  simp only [b1j,wC] at h
  simp only [find] at hf
  cases hb:Nat.beq n m with
  | true=>rw [hb] at hf;cases hf;exact h.1
  | false=>rw [hb] at hf;exact b2e h.2 hf
theorem b5n {l:List Nat} {id:Nat} {o:a0g} (h:o.within l=true) (hh:o.has id=true):id∈l:=by
 cases o with
 | cells cs ty =>
  simp only [a0g.within,a0g.has] at h hh
  obtain ⟨x,hx,hxh⟩:=b0e.1 hh
  exact a2w (a3g.1 h x hx) hxh
 | nmap z k kd es =>
  simp only [a0g.within,a0g.has] at h hh
  rw [zR hh];exact mem_iff.1 h
 | _=>simp [a0g.has] at hh
theorem b6n {s:Nat} {x:V}:∀{l:List V} {n:Nat},find s (a4t n l)=some x→n≤s∧l[s - n]?=some x
 | [],_,h=>by cases h
 | y::r,n,h=>by
  simp only [a4t,find] at h
  cases hb:Nat.beq s n with
  | true =>
   rw [hb] at h;cases h
   have e:=zR hb;subst e
   exact ⟨vI _,by simp⟩
  | false =>
   rw [hb] at h
   obtain ⟨h1,h2⟩:=b6n (l:=r) h
   have e:s - n=(s - (n+1))+1:=by omega
   exact ⟨by omega,by rw [e];exact h2⟩
open Classical in
noncomputable def Gh.mix (g g':Gh) (l:List Nat):Gh :=
 ⟨g'.S,fun i=>if i∈l then g'.ρ i else g.ρ i,fun i=>if i∈l then g'.base i else g.base i,fun i=>if i∈l then g'.cap i else g.cap i,fun i=>if i∈l then g'.nil i else g.nil i⟩
theorem b2n {g g':Gh} {l:List Nat} {i:Nat} (h:i∈l):g'.agree (g.mix g' l) i:=by simp [Gh.agree,Gh.mix,h]
theorem c95 {g g':Gh} {l:List Nat} {i:Nat} (h:i∉l):g.agree (g.mix g' l) i:=by simp [Gh.agree,Gh.mix,h]
theorem d7e {c:Ctx} {g:Gh} {σ:St} {a:Act} {w:World} (hR:Rel P c g σ a w) (s:Nat):VR g w (a.tmps.getD s undef) (get s σ.env):=by
 rw [a2h]
 cases hf:find s σ.env with
 | none=>exact .any _
 | some x=>exact (hR.env s x hf).2
theorem b1m {c:Ctx} {g:Gh} {σ:St} {a:Act} {w:World} (hR:Rel P c g σ a w) {F:ResultVar→Sem Value} (hF:∀t,F (.tmp t)=pure (a.tmps.getD t undef))
  (hG:∀t ty ad u,a.tmps.getD t undef=.pointer (some ad)→(loadVar ty ad).run P w=.ok u w→(F (.cell t ty)).run P w=.ok u w) :
  ∀{rs:List RS} {q:List ResultVar} {K:List V→Prop},a6s P rs q=true→b04 σ rs K→∃us vs,(q.mapM F).run P w=.ok us w∧us.length=vs.length∧(∀(i:Nat) (x:V),vs[i]?=some x→VR g w (us.toArray.getD i undef) x)∧K vs
 | [],[],K,_,h=>⟨[],[],by simp,rfl,fun i x hx=>by simp at hx,h⟩
 | .t s::r,.tmp t::q,K,hok,h=>by
  simp only [a6s,wC] at hok
  have e:=zR hok.1;subst e
  obtain ⟨us,vs,h1,h2,h3,h4⟩:=b1m hR hF hG hok.2 h
  refine ⟨a.tmps.getD s undef::us,get s σ.env::vs,?_,by simp [h2],fun i x hx=>?_,h4⟩
  ·simp only [List.mapM_cons,w7,hF,w6,xO,h1]
  ·cases i with
   | zero=>simp at hx;subst hx;simpa using d7e hR s
   | succ i=>simp at hx;simpa [zC] using h3 i x hx
 | .c s n::r,.cell t ty::q,K,hok,h=>by
  simp only [a6s,wC,xN] at hok
  have e:=zR hok.1.1;subst e
  obtain ⟨ad,u,z,e1,e2,e3,e4⟩:=d76 hok.1.2 hR.hp (fun _ _ h=>h) (d7e hR s) h
  have e3:b04 σ r fun vs=>K (z::vs):=by rcases e3 with e3|e3<;>exact e3
  obtain ⟨us,vs,h1,h2,h3,h4⟩:=b1m hR hF hG hok.2 e3
  refine ⟨u::us,z::vs,?_,by simp [h2],fun i x hx=>?_,h4⟩
  ·simp only [List.mapM_cons,w7,hG s ty ad u e1 e2,w6,xO,h1]
  ·cases i with
   | zero=>simp at hx;subst hx;simpa using e4
   | succ i=>simp at hx;simpa [zC] using h3 i x hx
 | [],_::_,K,hok,h=>by simp [a6s] at hok
 | .t _::_,[],K,hok,h=>by simp [a6s] at hok
 | .c _ _::_,[],K,hok,h=>by simp [a6s] at hok
 | .t _::_,.cell _ _::_,K,hok,h=>by simp [a6s] at hok
 | .c _ _::_,.tmp _::_,K,hok,h=>by simp [a6s] at hok
theorem c1o {c:Ctx} {g:Gh} {σ:St} {a:Act} {w:World} {l:List ResultVar} {rs:List RS} (hR:Rel P c g σ a w) (hok:a6s P rs l=true) {K:V→Prop} (h:b04 σ rs fun vs=>K (f5h vs)) {F:ResultVar→Sem Value}
  (hF:∀t,F (.tmp t)=pure (a.tmps.getD t undef)) (hG:∀t ty ad u,a.tmps.getD t undef=.pointer (some ad)→(loadVar ty ad).run P w=.ok u w→(F (.cell t ty)).run P w=.ok u w) :
  ∃v x,((((l.mapM F).run P w).andThen fun a w'=>.ok a.toArray w').andThen fun a w'=>(pure (if h:a.size=1 then a[0] else Value.tuple a):Sem Value).run P w')=.ok v w∧VR g w v x∧K x:=by
 obtain ⟨us,vs,h1,h2,h3,h4⟩:=b1m hR hF hG hok h
 rw [h1]
 match us,vs with
 | [u],[x]=>exact ⟨u,x,by simp,by simpa using h3 0 x rfl,h4⟩
 | [],[]=>exact ⟨.tuple #[],.tup [],by simp,.tup _ _ rfl fun i x hx=>by simp at hx,h4⟩
 | u1::u2::ur,x1::x2::xr=>exact ⟨.tuple (u1::u2::ur).toArray,.tup (x1::x2::xr),by simp,.tup _ _ (by simpa using h2) h3,h4⟩
 | [],_::_=>simp at h2
 | [_],[]=>simp at h2
 | [_],_::_::_=>simp at h2
 | _::_::_,[]=>simp at h2
 | _::_::_,[_]=>simp at h2
theorem c1n {c:Ctx} {g:Gh} {σ:St} {a:Act} {w:World} {fn:Func} {rs:List RS} (hR:Rel P c g σ a w) (hok:a6s P rs fn.results.toList=true) {K:V→Prop} (h:b04 σ rs fun vs=>K (f5h vs)) :
  ∃v x,(results fn a.tmps).run P w=.ok v w∧VR g w v x∧K x:=by
 unfold results
 rw [Array.mapM_eq_mapM_toList]
 simp only [w7,Sem.run_map]
 exact c1o hR hok h (fun t=>rfl) (fun t ty ad u e1 e2=>by simp [e1,asAddr,e2])
theorem f0s {g:Gh} {w:World} {H:Heap} {nt:Nat} {g':Gh} {σ:St} {a:Act} {w':World} {rids:List Nat} {x:V} {Q:V→Heap→Prop} {v:Value} (hR:Rel P ⟨w,g,H,nt,[],[],H,g,w⟩ g' σ a w')
  (hv:VR g' w' v x) (h:f6b rids Q σ x):∃r H' g'',Q r H'∧a3p P g'' w' H'∧VR g'' w' v r∧Frm ⟨w,g,H,0,[],[],H,g,w⟩ g'' w' H'∧(∀id,find id H'=none→g.agree g'' id):=by
 unfold f6b at h
 cases hc:c58 rids σ.heap&&x.within rids&&b1j rids (sel rids σ.heap) with
 | false=>rw [hc] at h;exact h.elim
 | true =>
  rw [hc] at h
  simp only [wC] at hc
  obtain ⟨⟨h1,h2⟩,h3⟩:=hc
  have hk:a2d g'.S w' w':=fun _ _=>rfl
  have hs:∀b,g'.S b→(g.mix g' rids).S b:=fun _ h=>h
  refine ⟨_,_,g.mix g' rids,h,⟨fun id o ho=>?_,fun i j o o' hi hj hni hnj he=>?_,fun id o ho hn hS=>?_,hR.hp.lt,hR.hp.tabs⟩,hv.mono hk hs fun id hid=>b2n (a2w h2 hid),
   ⟨hR.fr.os,hR.fr.tape,hR.fr.output,hR.fr.size,hR.fr.old,fun id o ho hn=>?_,hR.fr.sup,hR.fr.sub,fun id o ho=>?_⟩,fun id hid=>?_⟩
  ·obtain ⟨k1,k2⟩:=a6x ho
   exact (hR.hp.obj id o k2).mono hk hs (b2n k1) (fun _=>rfl) (fun n hn=>b2n (b5n (b2e h3 ho) hn)) (vI _)
  ·obtain ⟨k1,k2⟩:=a6x hi
   obtain ⟨k3,k4⟩:=a6x hj
   obtain ⟨e1,_,_,e2⟩:=b2n (g:=g) (g':=g') k1
   obtain ⟨e3,_,_,e4⟩:=b2n (g:=g) (g':=g') k3
   exact hR.hp.inj i j o o' k2 k4 (fun h=>hni (e2.2 h)) (fun h=>hnj (e4.2 h)) (by rw [←e1,←e3];exact he)
  ·obtain ⟨k1,k2⟩:=a6x ho
   obtain ⟨e1,_,_,e2⟩:=b2n (g:=g) (g':=g') k1
   rw [e1] at hS
   exact hR.hp.sep id o k2 (fun h=>hn (e2.2 h)) hS
  ·obtain ⟨k1,k2⟩:=a6x ho
   obtain ⟨e1,_,_,e2⟩:=b2n (g:=g) (g':=g') k1
   rw [e1]
   exact hR.fr.own id o k2 fun h=>hn (e2.2 h)
  ·by_cases hm:id∈rids
   ·exact (hR.fr.par id o ho).trans (b2n hm)
   ·exact c95 hm
  ·by_cases hm:id∈rids
   ·obtain ⟨o,ho⟩:=c3h h1 hm
    rw [ho] at hid;cases hid
   ·exact c95 hm
def shutAll:List Nat→World→World
 | [],w=>w
 | D::r,w=>shutAll r (w.putObj D (.deferred none))
theorem a9w:∀(Ds:List Nat) (w:World),(shutAll Ds w).os=w.os∧(shutAll Ds w).tape=w.tape∧(shutAll Ds w).output=w.output∧(shutAll Ds w).heap.size=w.heap.size∧∀b,b∉Ds→(shutAll Ds w).heap[b]?=w.heap[b]?
 | [],w=>⟨rfl,rfl,rfl,rfl,fun _ _=>rfl⟩
 | D::r,w=>by
  obtain ⟨h1,h2,h3,h4,h5⟩:=a9w r (w.putObj D (.deferred none))
  exact ⟨h1,h2,h3,h4.trans (by simp),fun b hb=>(h5 b fun h=>hb (xB _ h)).trans (World.putObj_heap_other fun e=>hb (e▸xH))⟩
theorem b2o {F:Fence} {n:Nat} {fn:Func} {tmps:Array Value} {R:Ending→World→Prop}:∀(Ds:List Nat) (w:World),Ds.Nodup→(∀D∈Ds,w.heap[D]?=some (.deferred (some [])))→LeavesIn F n P fn tmps R [] .returning (shutAll Ds w) →
  LeavesInM F n P fn tmps R (Ds.map fun D=>{ target:=.collected D,args:=#[] }) .returning w
 | [],w,_,_,h=>h
 | D::r,w,hn,hd,h=>by
  obtain ⟨h1,h2⟩:=List.nodup_cons.1 hn
  refine ⟨by simp,.inl ⟨D,w.putObj D (.deferred none),rfl,run_takeDeferred (hd D xH),b2o r _ h2 (fun E hE=>?_) h⟩⟩
  exact (World.putObj_heap_other fun e=>by subst e;exact h1 hE).trans (hd E (xB _ hE))
theorem d5p {f:Nat} {fn:Func} {code:Code} {mc:MC} {args:List V} {H:Heap} {Q:V→Heap→Prop} {g:Gh} {w:World} {vals:Array Value} (ns:List a4y) (rids:List Nat) (rs:List RS) (hf:P.funcs[f]?=some fn) (hb:fn.body=some code)
  (hnh:a8h P ⟨w,g,H,fn.ntmps,[],[],H,g,w⟩ mc) (hok:mc.ok P fn.ntmps code=true) (hrs:a6s P rs fn.results.toList=true) (hn:Nat.ble args.length fn.ntmps=true) (hg:St.good ⟨a4t 0 args,H⟩=true)
  (h:factsSt ⟨a4t 0 args,H⟩→MWP P H mc (a2j H ns rids rs Q) (fun _ _=>False) (a2j H ns rids rs Q) ⟨a4t 0 args,H⟩) (hH:a3p P g w H) (hl:vals.size=args.length) (hv:∀(i:Nat) (x:V),args[i]?=some x→VR g w (vals.getD i undef) x) :
  Calls P f vals w fun e w'=>∃v r H' g',e=.returned v∧Q r H'∧a3p P g' w' H'∧VR g' w' v r∧Frm ⟨w,g,H,0,[],[],H,g,w⟩ g' w' H'∧(∀id,find id H'=none→g.agree g' id):=by
 refine a8w (r:=none) (n:=0) (callsIn_of_wp_marks hf hb trivial ?_)
 obtain ⟨c,hcd⟩:∃c:Ctx,c=⟨w,g,H,fn.ntmps,[],[],H,g,w⟩:=⟨_,rfl⟩
 have hR:Rel P c g ⟨a4t 0 args,H⟩ { tmps:=vals++Array.replicate (fn.ntmps - vals.size) undef,defers:=[] } w:=by
  rw [hcd]
  have hle:vals.size≤fn.ntmps:=by rw [hl];exact zQ hn
  refine ⟨by simp;omega,⟨rfl,fun _ _ h=>(by cases h),fun _ _=>rfl⟩,fun s x hx=>?_,hH,⟨rfl,rfl,rfl,vI _,fun _ _ _=>rfl,fun id o ho hn=>⟨.inr ⟨id,o,ho,hn,rfl⟩,fun _ h=>by cases h⟩,fun _ h=>h.elim id id,fun _ h=>⟨.inl h,fun _ h=>by cases h⟩,fun id _ _=>Gh.agree.refl g id⟩⟩
  obtain ⟨_,h2⟩:=b6n hx
  rw [Nat.sub_zero] at h2
  have hlt:s<vals.size:=by
   rw [hl];exact (zG.1 h2).1
  refine ⟨xF hlt hle,?_⟩
  have e:(vals++Array.replicate (fn.ntmps - vals.size) undef).getD s undef=vals.getD s undef:=by
   simp [zC,zX,hlt]
  rw [e]
  exact hv s x h2
 have fin:∀(c':Ctx) (σ:St) (g':Gh) (a:Act) (w':World),c.le c'→a2j H ns rids rs Q σ→Rel P c' g' σ a w' →
   LeavesInM (WF none) 0 P fn a.tmps (fun e w'=>∃v r H' g',e=.returned v∧Q r H'∧a3p P g' w' H'∧VR g' w' v r∧Frm ⟨w,g,H,0,[],[],H,g,w⟩ g' w' H'∧(∀id,find id H'=none→g.agree g' id)) a.defers .returning w':=by
  intro c' σ g' a w' hle hq hr
  obtain ⟨Ds,e1,e2,e3⟩:=hle.dfr
  have e4:a.defers=Ds.map fun D=>{ target:=.collected D,args:=#[] }:=by
   rw [hr.dfr.1,e1,hcd];simp
  rw [e4]
  refine b2o Ds w' e2 (fun D hD=>(hr.dfr.2.1 D _ (e3 D hD).1).2) ?_
  obtain ⟨s1,s2,s3,s4,s5⟩:=a9w Ds w'
  obtain ⟨k1,k2,k3⟩:=b95 (c2:=c) (w':=shutAll Ds w') hr.hp hr.fr hr.dfr hle.w0.symm hle.g0.symm hle.hm.symm (fun b hS=>hr.fr.sup b (.inr (by rw [hle.gp];exact hS))) (fun id o ho=>by
   have:=hr.fr.par id o (by rw [hle.H0];exact ho)
   rwa [hle.gp] at this) s1 s2 s3 (by rw [s4];exact vI _) (fun b _ hf=>s5 b fun hb=>hf _ (e3 b hb).1) (fun b _ _ _ o ho=>by rw [hcd] at ho;cases ho)
  have hr2:Rel P c g' σ { a with defers:=[] } (shutAll Ds w'):=by
   refine ⟨by rw [←hle.nt];exact hr.size,⟨by rw [hcd],fun b o ho=>(by rw [hcd] at ho;cases ho),fun b hS=>?_⟩,fun t x hx=>?_,k1,k2⟩
   ·refine (k3 b (hr.fr.sup b (.inr (by rw [hle.gp];exact hS)))).trans ?_
    have:=hr.dfr.2.2 b (by rw [hle.gp];exact hS)
    rwa [hle.wp] at this
   ·obtain ⟨q1,q2⟩:=hr.env t x hx
    exact ⟨by rw [←hle.nt];exact q1,q2.mono (g':=g') k3 (fun _ h=>h) fun _ _=>Gh.agree.refl _ _⟩
  have hH0:c.H0=H:=by rw [hcd]
  unfold a2j at hq
  rw [←hH0] at hq
  obtain ⟨g',σ,hq,hr⟩:=a8n hq hr2
  obtain ⟨v,x,h1,h2,h0⟩:=c1n hr hrs hq
  rw [hcd] at hr
  obtain ⟨r,H',g'',h3,h4,h5,h6,h7⟩:=f0s hr h2 h0
  exact ⟨v,h1,v,r,H',g'',rfl,h3,h4,h5,h6,h7⟩
 have hm:=h (hR.factsSt hg)
 have hH0:c.H0=H:=by rw [hcd]
 rw [←hH0] at hm
 rw [hH0] at hm
 refine MC.sound mc (.inl rfl) (c:=c) (K:=a2j H ns rids rs Q) (X:=fun _ _=>False) (R:=a2j H ns rids rs Q) (by rw [hcd];exact hnh) ?_ (by rw [hcd];exact hok) hR (by rw [hH0];exact hm) (fun c' σ g' a w' hle hq hr=>?_) (fun _ _ _ _ _ _ _ h=>h.elim) (fun c' σ g' a w' hle hq hr=>?_)
 ·rintro _ _ ⟨v,_,_,_,h,_⟩;cases h
 ·exact fin c' σ g' a w' hle hq hr
 ·exact fin c' σ g' a w' hle hq hr
theorem d1r {f:Nat} {fn:Func} {code:Code} {mc:MC} {args:List V} {H:Heap} {Q:V→Heap→Prop} (ns:List a4y) (rids:List Nat) (rs:List RS) (hf:P.funcs[f]?=some fn) (hb:fn.body=some code) (hc:callable P f=true)
  (hnh:mc.nh=true) (hok:mc.ok P fn.ntmps code=true) (hrs:a6s P rs fn.results.toList=true) (hn:Nat.ble args.length fn.ntmps=true) (hg:St.good ⟨a4t 0 args,H⟩=true)
  (h:factsSt ⟨a4t 0 args,H⟩→MWP P H mc (a2j H ns rids rs Q) (fun _ _=>False) (a2j H ns rids rs Q) ⟨a4t 0 args,H⟩):a0o P f args H Q :=
 ⟨hc,fun g w vals hH hl hv=>d5p ns rids rs hf hb (.of_nh hnh) hok hrs hn hg h hH hl hv⟩
end
structure Cfg where
 P:Program
 H0:Heap
 K:St→Prop
 X:Nat→St→Prop
 R:St→Prop
inductive Fr where
 | sq (b:MC)
 | bl (id:Nat)
 | it (its:List It)
mutual
def kN (c:Cfg):List Fr→St→Prop
 | [],σ=>c.K σ
 | .sq b::s,σ=>MWP c.P c.H0 b (kN c s) (kX c s) c.R σ
 | .bl _::s,σ=>kN c s σ
 | .it its::s,σ=>c0w c.P c.H0 its σ (kN c s)
def kX (c:Cfg):List Fr→Nat→St→Prop
 | [],i,σ=>c.X i σ
 | .sq _::s,i,σ=>kX c s i σ
 | .it _::s,i,σ=>kX c s i σ
 | .bl id::s,i,σ=>bif Nat.beq i id then kN c s σ else kX c s i σ
end
def a0u (K:Eff→Prop) (v:V):Prop:=K (evl v)
def a8y (K:Eff→Prop) (id:Nat) (o:a0g):Prop:=K (eup id o)
def go (c:Cfg) (m:MC) (s:List Fr) (σ:St):Prop:=MWP c.P c.H0 m (kN c s) (kX c s) c.R σ
def ops (c:Cfg) (ms:List MOp) (s:List Fr) (σ:St):Prop:=runN c.P c.H0 ms σ (kN c s)
def aft (c:Cfg) (d:Option Nat) (r:List MOp) (s:List Fr) (e:List (Nat×V)) (h:Heap) (f:Eff):Prop:=ops c r s (St.app ⟨e,h⟩ d f)
def lok (c:Cfg) (d:Option Nat) (r:List MOp) (s:List Fr) (e:List (Nat×V)) (h:Heap) (f:Eff):Prop:=aft c d r s e h f
def grpC (c:Cfg) (ms:List MOp) (its:List It) (s:List Fr) (σ:St):Prop :=
 Lk (∃(α:Type) (I:α→St) (p:α→Prop),runN c.P c.H0 ms σ (fun σ'=>Lk (∃y,p y∧a0v (I y) σ'))∧∀y,p y→factsSt (I y)→kN c (.it its::s) (I y))
theorem lok_eq {c:Cfg} {d:Option Nat} {r:List MOp} {s:List Fr} {e:List (Nat×V)} {h:Heap} {f:Eff}:lok c d r s e h f=aft c d r s e h f:=propext vO
def b5k (c:Cfg) (i:a02) (d:Option Nat) (t:Nat) (want:Bool) (r:List MOp) (s:List Fr) (e:List (Nat×V)) (h:Heap) (v:V):Prop :=
 match v with
 | .bool b=>a4q b want (ops c (⟨i,d,none⟩::r) s ⟨put t (.bool want) e,h⟩) (ops c r s ⟨a7a d (put t (.bool (!want)) e),h⟩)
 | .tup []=>ops c r s ⟨a7a d e,h⟩
 | _=>False
def goC (c:Cfg) (x:Opd) (a b:MC) (s:List Fr) (e:List (Nat×V)) (h:Heap) (v:V):Prop :=
 match v with
 | .bool t=>a4q t true (go c a s (b5s x true ⟨e,h⟩)) (go c b s (b5s x false ⟨e,h⟩))
 | _=>False
section
variable {c:Cfg} {e:List (Nat×V)} {h:Heap} {s:List Fr} {r:List MOp} {d:Option Nat} {i:a02}
theorem go_seq {a b:MC}:go c (.seq a b) s ⟨e,h⟩=go c a (.sq b::s) ⟨e,h⟩:=by simp only [go,MWP,kN,kX]
theorem go_block {id:Nat} {b:MC}:go c (.block id b) s ⟨e,h⟩=go c b (.bl id::s) ⟨e,h⟩:=by simp only [go,MWP,kN,kX]
theorem go_skip:go c .skip s ⟨e,h⟩=kN c s ⟨e,h⟩:=propext vO
theorem go_ret:go c .ret s ⟨e,h⟩=c.R ⟨e,h⟩:=propext vO
theorem go_exit {id:Nat}:go c (.exit id) s ⟨e,h⟩=kX c s id ⟨e,h⟩:=propext vO
theorem go_reg {ms:List MOp}:go c (.reg ms) s ⟨e,h⟩=ops c ms s ⟨e,h⟩:=propext vO
theorem go_cond {x:Opd} {a b:MC}:go c (.cond x a b) s ⟨e,h⟩=goC c x a b s e h (x.ev e):=by
 unfold go MWP goC;rfl
theorem go_note {n:a4y} {b:MC}:go c (.note n b) s ⟨e,h⟩=a0t c.H0 n ⟨e,h⟩ (go c b s):=propext vO
theorem go_hnote {T:St→(St→Prop)→Prop} {b:MC}:go c (.hnote T b) s ⟨e,h⟩=T ⟨e,h⟩ (go c b s):=propext vO
theorem kN_nil:kN c [] ⟨e,h⟩=c.K ⟨e,h⟩:=by simp only [kN]
theorem kN_sq {b:MC}:kN c (.sq b::s) ⟨e,h⟩=go c b s ⟨e,h⟩:=by simp only [kN,go]
theorem kN_bl {id:Nat}:kN c (.bl id::s) ⟨e,h⟩=kN c s ⟨e,h⟩:=by simp only [kN]
theorem kX_nil {n:Nat}:kX c [] n ⟨e,h⟩=c.X n ⟨e,h⟩:=by simp only [kX]
theorem kX_sq {b:MC} {n:Nat}:kX c (.sq b::s) n ⟨e,h⟩=kX c s n ⟨e,h⟩:=by simp only [kX]
theorem g0c {id n:Nat}:kX c (.bl id::s) n ⟨e,h⟩=bif Nat.beq n id then kN c s ⟨e,h⟩ else kX c s n ⟨e,h⟩:=by simp only [kX]
theorem go_regI {its:List It}:go c (.regI its) s ⟨e,h⟩=kN c (.it its::s) ⟨e,h⟩:=by simp only [go,MWP,kN]
theorem kN_it_nil:kN c (.it []::s) ⟨e,h⟩=kN c s ⟨e,h⟩:=by simp only [kN,c0w]
theorem kN_it_op {m:MOp} {its:List It}:kN c (.it (.op m::its)::s) ⟨e,h⟩=ops c [m] (.it its::s) ⟨e,h⟩:=by simp only [kN,c0w,ops,runN]
theorem kN_it_nt {n:a4y} {its:List It}:kN c (.it (.nt n::its)::s) ⟨e,h⟩=a0t c.H0 n ⟨e,h⟩ (kN c (.it its::s)):=by
 have:kN c (.it its::s)=fun σ'=>c0w c.P c.H0 its σ' (kN c s):=by funext σ';simp only [kN]
 rw [this];simp only [kN,c0w]
theorem kN_it_grp {ms:List MOp} {its:List It}:kN c (.it (.grp ms::its)::s) ⟨e,h⟩=grpC c ms its s ⟨e,h⟩:=by
 have:kN c (.it its::s)=fun σ'=>c0w c.P c.H0 its σ' (kN c s):=by funext σ';simp only [kN]
 unfold grpC;rw [this];simp only [kN,c0w]
theorem kX_it {its:List It} {n:Nat}:kX c (.it its::s) n ⟨e,h⟩=kX c s n ⟨e,h⟩:=by simp only [kX]
theorem ops_nil:ops c [] s ⟨e,h⟩=kN c s ⟨e,h⟩:=propext vO
theorem ops_guard {t:Nat} {w:Bool}:ops c (⟨i,d,some (t,w)⟩::r) s ⟨e,h⟩=b5k c i d t w r s e h (get t e):=propext vO
theorem g09 (K:Eff→Prop):(fun e=>Lk (K e))=K:=funext fun e=>propext ⟨Lk.out,Lk.mk⟩
theorem ops_ins:ops c (⟨i,d,none⟩::r) s ⟨e,h⟩=bif a1k c.H0 ⟨e,h⟩ (i.creates (d.getD 0)) then o7 c.P i (d.getD 0) (i.opds.map (·.ev e)) (c5t h) (aft c d r s e h) (lok c d r s e h) else False:=by
 simp only [ops,runN,b60,b8z,g09];rfl
theorem aft_eq {v:V} {dr:List Nat} {nw:List (Nat×a0g)}:aft c d r s e h ⟨v,dr,nw⟩=ops c r s ⟨c57 d v e,puts nw (d0x dr h)⟩:=propext vO
theorem aft_some {n:Nat} {v:V}:a0u (aft c (some n) r s e h) v=ops c r s ⟨put n v e,h⟩:=propext vO
theorem aft_none {v:V}:a0u (aft c none r s e h) v=ops c r s ⟨e,h⟩:=propext vO
theorem aft_up {n:Nat} {id:Nat} {o:a0g}:a8y (aft c (some n) r s e h) id o=ops c r s ⟨put n .any e,put id o h⟩:=propext vO
theorem aft_upn {id:Nat} {o:a0g}:a8y (aft c none r s e h) id o=ops c r s ⟨e,put id o h⟩:=propext vO
theorem lok_comp {v:V}:a0u (lok c d r s e h) v=a0u (aft c d r s e h) v:=propext vO
theorem lok_compU {id:Nat} {o:a0g}:a8y (lok c d r s e h) id o=a8y (aft c d r s e h) id o:=propext vO
theorem a6d {t:Nat} {w b:Bool}:b5k c i d t w r s e h (.bool b)=a4q b w (ops c (⟨i,d,none⟩::r) s ⟨put t (.bool w) e,h⟩) (ops c r s ⟨a7a d (put t (.bool (!w)) e),h⟩):=propext vO
theorem opsG_tup {t:Nat} {w:Bool}:b5k c i d t w r s e h (.tup [])=ops c r s ⟨a7a d e,h⟩:=propext vO
theorem opsG_lit_tt {t:Nat}:b5k c i d t true r s e h (.bool true)=ops c (⟨i,d,none⟩::r) s ⟨put t (.bool true) e,h⟩:=by rw [a6d,b0g]
theorem opsG_lit_ff {t:Nat}:b5k c i d t false r s e h (.bool false)=ops c (⟨i,d,none⟩::r) s ⟨put t (.bool false) e,h⟩:=by rw [a6d,b7z]
theorem opsG_lit_tf {t:Nat}:b5k c i d t false r s e h (.bool true)=ops c r s ⟨a7a d (put t (.bool true) e),h⟩:=by rw [a6d,b7y];rfl
theorem opsG_lit_ft {t:Nat}:b5k c i d t true r s e h (.bool false)=ops c r s ⟨a7a d (put t (.bool false) e),h⟩:=by rw [a6d,b0h];rfl
theorem b1q {t:Nat} {p:Prop} [Decidable p]:b5k c i d t true r s e h (.bool (decide p)) =
  ((p→ops c (⟨i,d,none⟩::r) s ⟨put t (.bool true) e,h⟩)∧(¬p→ops c r s ⟨a7a d (put t (.bool false) e),h⟩)):=by
 rw [a6d];simp [a4q]
theorem b1r {t:Nat} {p:Prop} [Decidable p]:b5k c i d t false r s e h (.bool (decide p)) =
  ((¬p→ops c (⟨i,d,none⟩::r) s ⟨put t (.bool false) e,h⟩)∧(p→ops c r s ⟨a7a d (put t (.bool true) e),h⟩)):=by
 rw [a6d];simp [a4q]
theorem a8t {x:Opd} {a b:MC} {t:Bool}:goC c x a b s e h (.bool t)=a4q t true (go c a s (b5s x true ⟨e,h⟩)) (go c b s (b5s x false ⟨e,h⟩)):=propext vO
theorem goC_t {n:Nat} {a b:MC}:goC c (.t n) a b s e h (.bool true)=go c a s ⟨put n (.bool true) e,h⟩:=by rw [a8t,b0g];rfl
theorem goC_f {n:Nat} {a b:MC}:goC c (.t n) a b s e h (.bool false)=go c b s ⟨put n (.bool false) e,h⟩:=by rw [a8t,b0h];rfl
theorem goC_ct {v:V} {a b:MC}:goC c (.c v) a b s e h (.bool true)=go c a s ⟨e,h⟩:=by rw [a8t,b0g];rfl
theorem goC_cf {v:V} {a b:MC}:goC c (.c v) a b s e h (.bool false)=go c b s ⟨e,h⟩:=by rw [a8t,b0h];rfl
theorem c2b {n:Nat} {a b:MC} {p:Prop} [Decidable p]:goC c (.t n) a b s e h (.bool (decide p)) =
  ((p→go c a s ⟨put n (.bool true) e,h⟩)∧(¬p→go c b s ⟨put n (.bool false) e,h⟩)):=by
 rw [a8t];simp [a4q,b5s]
theorem goC_any {n:Nat} {a b:MC} (t:Bool):goC c (.t n) a b s e h (.bool t) =
  ((t=true→go c a s ⟨put n (.bool true) e,h⟩)∧(t=false→go c b s ⟨put n (.bool false) e,h⟩)):=by
 rw [a8t];simp [a4q,b5s]
theorem opsG_any {t:Nat} {w:Bool} (b:Bool):b5k c i d t w r s e h (.bool b) =
  ((b=w→ops c (⟨i,d,none⟩::r) s ⟨put t (.bool w) e,h⟩)∧(b=(!w)→ops c r s ⟨a7a d (put t (.bool (!w)) e),h⟩)):=propext vO
section
variable {vs:List V} {P:Program} {n0:Nat} {ob:Nat→Option a0g} {K L:Eff→Prop}
theorem g0p {x:Opd} {v:V}:o7 P (.mv x) n0 [v] ob K L=a0u K v:=propext vO
theorem e3j {x y z:Opd} {a b t:V}:o7 P (.pick x y z) n0 [t,a,b] ob K L=c1g t a b (a0u K):=propext vO
theorem g0s {n:Option Nat} {x:Opd} {a:V}:o7 P (.ld n x) n0 [a] ob K L=sLd n a ob (a0u K) (a0u L):=propext vO
theorem g0o {n:Nat} {x y:Opd} {a v:V}:o7 P (.st n x y) n0 [a,v] ob K L=sSt n a v ob (a8y K) (a8y L):=propext vO
theorem f2n {x:Opd} {a:V}:o7 P (.nck x) n0 [a] ob K L=e5j a (a0u K):=propext vO
theorem f2w {ch:Bool} {op:BinOp} {x y:Opd} {a b:V}:o7 P (.bin ch op x y) n0 [a,b] ob K L=d6t ch op a b (a0u K):=propext vO
theorem e3m {m:Nat} {x:Opd} {k:IntKind} {a:V}:o7 P (.mask m x k) n0 [a] ob K L=c1i m k a (a0u K):=propext vO
theorem f2x {ng:Bool} {x y:Opd} {a b:V}:o7 P (.beq ng x y) n0 [a,b] ob K L=e5n ng a b (a0u K):=propext vO
theorem f2u {ng:Bool} {ks:List Nat} {x y:Opd} {a b:V}:o7 P (.eqs ng ks x y) n0 [a,b] ob K L=d98 ng ks a b (a0u K):=propext vO
theorem f2l {x:Opd} {a:V}:o7 P (.not x) n0 [a] ob K L=e5h a (a0u K):=propext vO
theorem f2m {ch:Bool} {x:Opd} {a:V}:o7 P (.neg ch x) n0 [a] ob K L=e5i ch a (a0u K):=propext vO
theorem f2r {ch:Bool} {k:IntKind} {x:Opd} {a:V}:o7 P (.i2i ch k x) n0 [a] ob K L=e5l ch k a (a0u K):=propext vO
theorem f2y {x:Opd} {a:V}:o7 P (.b2s x) n0 [a] ob K L=c82 a ob (a0u K) (a0u L):=propext vO
theorem e3l {f:Nat} {cap:List Opd}:o7 P (.mkfn f cap) n0 vs ob K L=a0u K (.fn (.func f) vs):=by unfold o7;rfl
theorem f2i {x:Opd} {lo hi:Option Opd} {v:V}:o7 P (.sls x lo hi) n0 (v::vs) ob K L=d8s lo.isSome hi.isSome v vs (a0u K):=propext vO
theorem f2j {k:Nat} {x:Opd} {lo hi:Option Opd} {v:V}:o7 P (.slc k x lo hi) n0 (v::vs) ob K L=d6r k lo.isSome hi.isSome v vs (a0u K):=propext vO
theorem f2s {off:Nat} {x:Opd} {a:V}:o7 P (.fad off x) n0 [a] ob K L=e5m off a (a0u K):=propext vO
theorem f2q {k:Nat} {x i:Opd} {a b:V}:o7 P (.iad k x i) n0 [a,b] ob K L=d21 k a b (a0u K) (a0u L):=propext vO
theorem f2p {x i:Opd} {a b:V}:o7 P (.idx x i) n0 [a,b] ob K L=e5k a b (a0u K):=propext vO
theorem f3a {n:Option Nat} {k q:Nat} {x i:Opd} {a b:V}:o7 P (.aix n k q x i) n0 [a,b] ob K L=e5o n k q a b (a0u K):=propext vO
theorem f2t {i:Nat} {x:Opd} {a:V}:o7 P (.ext i x) n0 [a] ob K L=d96 i a (a0u K):=propext vO
theorem at_len {t:Bool} {x:Opd} {a:V}:o7 P (.len t x) n0 [a] ob K L=sLen t a (a0u K):=propext vO
theorem g0r {mx:Bool} {x y:Opd} {a b:V}:o7 P (.mm mx x y) n0 [a,b] ob K L=sMm mx a b (a0u K):=propext vO
theorem d5x {zs:List V} {t:Option TypeId}:o7 P (.alloc zs t) n0 vs ob K L=K ⟨.ptr n0 0,[],[(n0,.cells zs t)]⟩:=by unfold o7;rfl
theorem f2v {x:Opd} {a:V}:o7 P (.box x) n0 [a] ob K L=d9a n0 a K:=propext vO
theorem d1k {k:Nat} {xs:List Opd} {uv:Bool}:o7 P (.bslice k xs uv) n0 vs ob K L=bif vs.all (a4n k) then K ⟨.osl n0 k 0 vs.length,[],[(n0,.arr k vs (uvT uv))]⟩ else False:=by unfold o7;rfl
theorem f2k {x:Opd} {a:V}:o7 P (.s2b x) n0 [a] ob K L=e5g n0 a K:=propext vO
theorem e3k {k bytes:Nat} {z:V} {l m:Opd} {a b:V}:o7 P (.mksl k bytes z l m) n0 [a,b] ob K L=c1h k bytes n0 z a b K:=propext vO
theorem f2z {k bytes:Nat} {x y:Opd} {ty:Option TypeId} {a b:V}:o7 P (.app k bytes x y ty) n0 [a,b] ob K L=c3m k bytes n0 ty a b ob K:=propext vO
theorem e3n {f:Opd} {args:List Opd} {ids news:List Nat} {g:V}:o7 P (.call f args ids news) n0 (g::vs) ob K L=b39 P g vs ids news ob (L):=propext vO
@[go_sem] def d0h (K:Eff→Prop):Option (List V)→Prop
 | some cs=>a0u K (.agg cs)
 | none=>False
theorem f2o {k:Nat} {xs:List Opd}:o7 P (.lsl k xs) n0 vs ob K L=bif vs.all (a4n k) then a0u K (.sl vs) else False:=by unfold o7;rfl
theorem e3o {k:Nat} {zs:List V} {xs:List Opd}:o7 P (.barr k zs xs) n0 vs ob K L=d0h K (b0o zs (a2n k 0 vs)):=by
 unfold o7 d0h;rfl
theorem d5w {zs:List V} {ps:List (Nat×Nat×Opd)}:o7 P (.build zs ps) n0 vs ob K L=d0h K (b0o zs ((ps.zip vs).map fun p=>(p.1.1,p.1.2.1,p.2))):=by
 unfold o7 d0h;rfl
end
theorem c74 (n m:Nat):Nat.beq n m=(n==m):=by
 cases hb:Nat.beq n m with
 | true=>rw [zR hb];simp
 | false =>
  have:n≠m:=fun e=>by rw [e,vB] at hb;cases hb
  simp [this]
theorem g5g (n m:Nat):Nat.ble n m=decide (n≤m):=by
 cases hb:Nat.ble n m with
 | true=>have:=zQ hb;simp [this]
 | false =>
  have:¬n≤m:=fun e=>by rw [Nat.ble_eq_true_of_le e] at hb;cases hb
  simp [this]
theorem d50 {n m:Nat} {x:V} {r:List (Nat×V)}:get n ((m,x)::r)=bif n==m then x else get n r:=by simp only [get,c74]
theorem e1z {n:Nat}:get n []=.any:=rfl
theorem d0g {α:Type} {n m:Nat} {x:α} {r:List (Nat×α)}:find n ((m,x)::r)=bif n==m then some x else find n r:=by simp only [find,c74]
theorem d57 {α:Type} {n:Nat}:find n ([]:List (Nat×α))=none:=rfl
theorem d3d {α:Type} {n m:Nat} {x y:α} {r:List (Nat×α)}:put n x ((m,y)::r)=bif n==m then (m,x)::r else (m,y)::put n x r:=by simp only [put,c74]
theorem d9o {α:Type} {n:Nat} {x:α}:put n x []=[(n,x)]:=rfl
theorem d5h {α:Type} {n m:Nat} {x:α} {r:List (Nat×α)}:del n ((m,x)::r)=bif n==m then del n r else (m,x)::del n r:=by simp only [del,c74]
theorem e2l {α:Type} {n:Nat}:del n ([]:List (Nat×α))=[]:=rfl
theorem d9u {n:Nat}:c5t h n=find n h:=rfl
theorem e1q {n id o:Nat}:(V.ptr id o).has n=(n==id):=by simp only [V.has,c74]
theorem e1r {n id k l m:Nat}:(V.osl id k l m).has n=(n==id):=by simp only [V.has,c74]
theorem d4k {n id k l m:Nat}:(V.optr id k l m).has n=(n==id):=by simp only [V.has,c74]
theorem d4t {n id:Nat}:(V.bptr id).has n=(n==id):=by simp only [V.has,c74]
theorem d4l {n id:Nat}:(V.omap id).has n=(n==id):=by simp only [V.has,c74]
theorem e1w {n:Nat} {cs:List V}:(V.agg cs).has n=V.hasL n cs:=by simp only [V.has]
theorem e1o {n:Nat} {cs:List V}:(V.tup cs).has n=V.hasL n cs:=by simp only [V.has]
theorem f0e {n:Nat} {f:Fn} {cs:List V}:(V.fn f cs).has n=V.hasL n cs:=by simp only [V.has]
theorem d4u {n:Nat} {b:Bool}:(V.bool b).has n=false:=by simp only [V.has]
theorem e1s {n:Nat} {k:IntKind} {x:Int}:(V.int k x).has n=false:=by simp only [V.has]
theorem e1p {n:Nat} {x:List UInt8}:(V.str x).has n=false:=by simp only [V.has]
theorem f0d {n:Nat} {x:List V}:(V.sl x).has n=false:=by simp only [V.has]
theorem d4m {n:Nat}:V.nils.has n=false:=by simp only [V.has]
theorem d4n {n:Nat}:V.nilp.has n=false:=by simp only [V.has]
theorem d4o {n:Nat}:V.nilm.has n=false:=by simp only [V.has]
theorem d4q {n:Nat}:V.nilf.has n=false:=by simp only [V.has]
theorem d4p {n:Nat}:V.nili.has n=false:=by simp only [V.has]
theorem e1v {n:Nat}:V.any.has n=false:=by simp only [V.has]
theorem d4r {n o:Nat} {x:V}:(V.eptr x o).has n=false:=by simp only [V.has]
theorem d4v {n:Nat}:V.hasL n []=false:=by simp only [V.hasL]
theorem d06 {n:Nat} {x:V} {l:List V}:V.hasL n (x::l)=(x.has n||V.hasL n l):=by simp only [V.hasL]
theorem c6e {σ:St} {H:Heap}:a1k H σ []=true:=rfl
theorem c2n {n:Nat} {l:List Nat} {H:Heap}:a1k H ⟨e,h⟩ (n::l)=((find n H).isNone&&a7t n e&&a1f n h&&a1k H ⟨e,h⟩ l):=by
 simp only [a1k];cases find n H<;>rfl
theorem kX_bl' {id n:Nat}:kX c (.bl id::s) n ⟨e,h⟩=bif n==id then kN c s ⟨e,h⟩ else kX c s n ⟨e,h⟩:=by rw [g0c,c74]
theorem e0g {n:Nat}:mem n []=false:=rfl
theorem c9a {n m:Nat} {l:List Nat}:mem n (m::l)=(n==m||mem n l):=by simp only [mem,c74]
def f7s (H:Heap) (σ:St) (i:Nat) (a:List (List Nat)) (l:List Ent):Prop:=a3f H σ i a l=true
theorem e2s {H:Heap} {σ:St} {i:Nat} {a:List (List Nat)} {l:List Ent} (h:a3f H σ i a l=true):f7s H σ i a l:=h
def opsD (c:Cfg) (anc:List (List Nat)) (e0:List (Nat×V)) (h0:Heap) (ms:List MOp) (log:List Ent) (s:List Fr) (σ:St):Prop :=
 c88 c.P c.H0 ms log σ fun log σ'=>a3f c.H0 ⟨e0,h0⟩ 0 anc log.reverse=true∧kN c s σ'
def aftD (c:Cfg) (anc:List (List Nat)) (e0:List (Nat×V)) (h0:Heap) (d:Option Nat) (u t m:List Nat) (r:List MOp) (log:List Ent) (s:List Fr) (e:List (Nat×V)) (h:Heap) (f:Eff):Prop :=
 opsD c anc e0 h0 r (⟨d,some f,u,t,m⟩::log) s (St.app ⟨e,h⟩ d f)
def lokD (c:Cfg) (anc:List (List Nat)) (e0:List (Nat×V)) (h0:Heap) (d:Option Nat) (u t m:List Nat) (r:List MOp) (log:List Ent) (s:List Fr) (e:List (Nat×V)) (h:Heap) (f:Eff):Prop :=
 aftD c anc e0 h0 d u t m r log s e h f
def insG (c:Cfg) (anc:List (List Nat)) (e0:List (Nat×V)) (h0:Heap) (i:a02) (d:Option Nat) (gs:List Nat) (r:List MOp) (log:List Ent) (s:List Fr) (e:List (Nat×V)) (h:Heap):Prop :=
 bif a1k c.H0 ⟨e,h⟩ (i.creates (d.getD 0)) then
  a18 c.P i (d.getD 0) (i.opds.map (·.ev e)) (c5t h) (aftD c anc e0 h0 d (gs++slotsOf i.opds) (i.touch (i.opds.map (·.ev e))) (i.creates (d.getD 0)) r log s e h)
   (lokD c anc e0 h0 d (gs++slotsOf i.opds) (i.touch (i.opds.map (·.ev e))) (i.creates (d.getD 0)) r log s e h)
 else False
def opsDG (c:Cfg) (anc:List (List Nat)) (e0:List (Nat×V)) (h0:Heap) (i:a02) (d:Option Nat) (t:Nat) (want:Bool) (r:List MOp) (log:List Ent) (s:List Fr) (e:List (Nat×V)) (h:Heap) (v:V):Prop :=
 match v with
 | .bool b=>a4q b want (insG c anc e0 h0 i d [t] r log s (put t (.bool want) e) h) (opsD c anc e0 h0 r (⟨d,none,[t],[],[]⟩::log) s ⟨a7a d (put t (.bool (!want)) e),h⟩)
 | .tup []=>opsD c anc e0 h0 r (⟨d,none,[t],[],[]⟩::log) s ⟨a7a d e,h⟩
 | _=>False
section
variable {P:Program} {n0:Nat} {vs:List V} {ob:Nat→Option a0g} {K L:Eff→Prop}
theorem g0h {x:Opd}:a18 P (.mv x) n0 vs ob K L=o7 P (.mv x) n0 vs ob K L:=propext vO
theorem e2m {x y z:Opd}:a18 P (.pick x y z) n0 vs ob K L=o7 P (.pick x y z) n0 vs ob K L:=propext vO
theorem d5k {zs:List V} {t:Option TypeId}:a18 P (.alloc zs t) n0 vs ob K L=o7 P (.alloc zs t) n0 vs ob K L:=propext vO
theorem f1r {x:Opd}:a18 P (.box x) n0 vs ob K L=o7 P (.box x) n0 vs ob K L:=propext vO
theorem d5j {zs:List V} {ps:List (Nat×Nat×Opd)}:a18 P (.build zs ps) n0 vs ob K L=o7 P (.build zs ps) n0 vs ob K L:=propext vO
theorem d0z {k:Nat} {xs:List Opd} {uv:Bool}:a18 P (.bslice k xs uv) n0 vs ob K L=o7 P (.bslice k xs uv) n0 vs ob K L:=propext vO
theorem g0k {n:Option Nat} {x:Opd}:a18 P (.ld n x) n0 vs ob K L=o7 P (.ld n x) n0 vs ob K L:=propext vO
theorem g0g {n:Nat} {x y:Opd}:a18 P (.st n x y) n0 vs ob K L=o7 P (.st n x y) n0 vs ob K L:=propext vO
theorem f1d {x:Opd}:a18 P (.nck x) n0 vs ob K L=o7 P (.nck x) n0 vs ob K L:=propext vO
theorem f1s {ch:Bool} {op:BinOp} {x y:Opd}:a18 P (.bin ch op x y) n0 vs ob K L=o7 P (.bin ch op x y) n0 vs ob K L:=propext vO
theorem e2q {m:Nat} {x:Opd} {k:IntKind}:a18 P (.mask m x k) n0 vs ob K L=o7 P (.mask m x k) n0 vs ob K L:=propext vO
theorem f1t {ng:Bool} {x y:Opd}:a18 P (.beq ng x y) n0 vs ob K L=o7 P (.beq ng x y) n0 vs ob K L:=propext vO
theorem f1o {ng:Bool} {ks:List Nat} {x y:Opd}:a18 P (.eqs ng ks x y) n0 vs ob K L=o7 P (.eqs ng ks x y) n0 vs ob K L:=propext vO
theorem f1b {x:Opd}:a18 P (.not x) n0 vs ob K L=o7 P (.not x) n0 vs ob K L:=propext vO
theorem f1c {ch:Bool} {x:Opd}:a18 P (.neg ch x) n0 vs ob K L=o7 P (.neg ch x) n0 vs ob K L:=propext vO
theorem f1k {ch:Bool} {k:IntKind} {x:Opd}:a18 P (.i2i ch k x) n0 vs ob K L=o7 P (.i2i ch k x) n0 vs ob K L:=propext vO
theorem f0y {x:Opd}:a18 P (.s2b x) n0 vs ob K L=o7 P (.s2b x) n0 vs ob K L:=propext vO
theorem f1u {x:Opd}:a18 P (.b2s x) n0 vs ob K L=o7 P (.b2s x) n0 vs ob K L:=propext vO
theorem e2p {f:Nat} {cap:List Opd}:a18 P (.mkfn f cap) n0 vs ob K L=o7 P (.mkfn f cap) n0 vs ob K L:=propext vO
theorem e2o {k bytes:Nat} {z:V} {l m:Opd}:a18 P (.mksl k bytes z l m) n0 vs ob K L=o7 P (.mksl k bytes z l m) n0 vs ob K L:=propext vO
theorem f0w {x:Opd} {lo hi:Option Opd}:a18 P (.sls x lo hi) n0 vs ob K L=o7 P (.sls x lo hi) n0 vs ob K L:=propext vO
theorem f0x {k:Nat} {x:Opd} {lo hi:Option Opd}:a18 P (.slc k x lo hi) n0 vs ob K L=o7 P (.slc k x lo hi) n0 vs ob K L:=propext vO
theorem f1m {off:Nat} {x:Opd}:a18 P (.fad off x) n0 vs ob K L=o7 P (.fad off x) n0 vs ob K L:=propext vO
theorem f1j {k:Nat} {x y:Opd}:a18 P (.iad k x y) n0 vs ob K L=o7 P (.iad k x y) n0 vs ob K L:=propext vO
theorem f1i {x y:Opd}:a18 P (.idx x y) n0 vs ob K L=o7 P (.idx x y) n0 vs ob K L:=propext vO
theorem f1x {n:Option Nat} {k q:Nat} {x i:Opd}:a18 P (.aix n k q x i) n0 vs ob K L=o7 P (.aix n k q x i) n0 vs ob K L:=propext vO
theorem f1e {k:Nat} {xs:List Opd}:a18 P (.lsl k xs) n0 vs ob K L=o7 P (.lsl k xs) n0 vs ob K L:=propext vO
theorem e2r {k:Nat} {zs:List V} {xs:List Opd}:a18 P (.barr k zs xs) n0 vs ob K L=o7 P (.barr k zs xs) n0 vs ob K L:=propext vO
theorem f1n {i:Nat} {x:Opd}:a18 P (.ext i x) n0 vs ob K L=o7 P (.ext i x) n0 vs ob K L:=propext vO
theorem f1g {t:Bool} {x:Opd}:a18 P (.len t x) n0 vs ob K L=o7 P (.len t x) n0 vs ob K L:=propext vO
theorem f1v {k bytes:Nat} {x y:Opd} {ty:Option TypeId}:a18 P (.app k bytes x y ty) n0 vs ob K L=o7 P (.app k bytes x y ty) n0 vs ob K L:=propext vO
theorem g0i {mx:Bool} {x y:Opd}:a18 P (.mm mx x y) n0 vs ob K L=o7 P (.mm mx x y) n0 vs ob K L:=propext vO
end
section
variable {anc aft0:List (List Nat)} {e0:List (Nat×V)} {h0:Heap} {log:List Ent} {u t m gs:List Nat}
theorem go_regD {ms:List MOp}:go c (.regD ms aft0 anc) s ⟨e,h⟩=opsD c anc e h ms [] s ⟨e,h⟩:=propext vO
theorem opsD_nil:opsD c anc e0 h0 [] log s ⟨e,h⟩=(f7s c.H0 ⟨e0,h0⟩ 0 anc log.reverse∧kN c s ⟨e,h⟩):=propext vO
theorem opsD_ins:opsD c anc e0 h0 (⟨i,d,none⟩::r) log s ⟨e,h⟩=insG c anc e0 h0 i d [] r log s e h:=propext vO
theorem opsD_guard {n:Nat} {w:Bool}:opsD c anc e0 h0 (⟨i,d,some (n,w)⟩::r) log s ⟨e,h⟩=opsDG c anc e0 h0 i d n w r log s e h (get n e):=propext vO
theorem insG_eq:insG c anc e0 h0 i d gs r log s e h=bif a1k c.H0 ⟨e,h⟩ (i.creates (d.getD 0)) then
  a18 c.P i (d.getD 0) (i.opds.map (·.ev e)) (c5t h) (aftD c anc e0 h0 d (gs++slotsOf i.opds) (i.touch (i.opds.map (·.ev e))) (i.creates (d.getD 0)) r log s e h)
   (lokD c anc e0 h0 d (gs++slotsOf i.opds) (i.touch (i.opds.map (·.ev e))) (i.creates (d.getD 0)) r log s e h)
 else False:=propext vO
theorem c54 {P:Program} {n0:Nat} {vs:List V} {ob:Nat→Option a0g} {K L:Eff→Prop} {f:Opd} {args:List Opd} {ids news:List Nat} {g:V} :
  a18 P (.call f args ids news) n0 (g::vs) ob K L=b42 P g vs ids news ob L:=rfl
theorem aftD_eq {v:V} {dr:List Nat} {nw:List (Nat×a0g)}:aftD c anc e0 h0 d u t m r log s e h ⟨v,dr,nw⟩=opsD c anc e0 h0 r (⟨d,some ⟨v,dr,nw⟩,u,t,m⟩::log) s ⟨c57 d v e,puts nw (d0x dr h)⟩:=propext vO
theorem aftD_comp {v:V}:a0u (aftD c anc e0 h0 d u t m r log s e h) v=opsD c anc e0 h0 r (⟨d,some ⟨v,[],[]⟩,u,t,m⟩::log) s ⟨c57 d v e,h⟩:=propext vO
theorem aftD_up {id:Nat} {o:a0g}:a8y (aftD c anc e0 h0 d u t m r log s e h) id o=opsD c anc e0 h0 r (⟨d,some ⟨.any,[],[(id,o)]⟩,u,t,m⟩::log) s ⟨c57 d .any e,put id o h⟩:=propext vO
theorem lokD_eq {f:Eff}:lokD c anc e0 h0 d u t m r log s e h f=aftD c anc e0 h0 d u t m r log s e h f:=propext vO
theorem lokD_comp {v:V}:a0u (lokD c anc e0 h0 d u t m r log s e h) v=a0u (aftD c anc e0 h0 d u t m r log s e h) v:=propext vO
theorem lokD_compU {id:Nat} {o:a0g}:a8y (lokD c anc e0 h0 d u t m r log s e h) id o=a8y (aftD c anc e0 h0 d u t m r log s e h) id o:=propext vO
theorem opsDG_bool {n:Nat} {w b:Bool}:opsDG c anc e0 h0 i d n w r log s e h (.bool b) =
  a4q b w (insG c anc e0 h0 i d [n] r log s (put n (.bool w) e) h) (opsD c anc e0 h0 r (⟨d,none,[n],[],[]⟩::log) s ⟨a7a d (put n (.bool (!w)) e),h⟩):=propext vO
theorem opsDG_tup {n:Nat} {w:Bool}:opsDG c anc e0 h0 i d n w r log s e h (.tup [])=opsD c anc e0 h0 r (⟨d,none,[n],[],[]⟩::log) s ⟨a7a d e,h⟩:=propext vO
theorem opsDG_tt {n:Nat}:opsDG c anc e0 h0 i d n true r log s e h (.bool true)=insG c anc e0 h0 i d [n] r log s (put n (.bool true) e) h:=by rw [opsDG_bool,b0g]
theorem opsDG_ff {n:Nat}:opsDG c anc e0 h0 i d n false r log s e h (.bool false)=insG c anc e0 h0 i d [n] r log s (put n (.bool false) e) h:=by rw [opsDG_bool,b7z]
theorem opsDG_tf {n:Nat}:opsDG c anc e0 h0 i d n false r log s e h (.bool true)=opsD c anc e0 h0 r (⟨d,none,[n],[],[]⟩::log) s ⟨a7a d (put n (.bool true) e),h⟩:=by rw [opsDG_bool,b7y];rfl
theorem opsDG_ft {n:Nat}:opsDG c anc e0 h0 i d n true r log s e h (.bool false)=opsD c anc e0 h0 r (⟨d,none,[n],[],[]⟩::log) s ⟨a7a d (put n (.bool false) e),h⟩:=by rw [opsDG_bool,b0h];rfl
theorem a9b {n:Nat} {p:Prop} [Decidable p]:opsDG c anc e0 h0 i d n true r log s e h (.bool (decide p)) =
  ((p→insG c anc e0 h0 i d [n] r log s (put n (.bool true) e) h)∧(¬p→opsD c anc e0 h0 r (⟨d,none,[n],[],[]⟩::log) s ⟨a7a d (put n (.bool false) e),h⟩)):=by
 rw [opsDG_bool];simp [a4q]
theorem a9c {n:Nat} {p:Prop} [Decidable p]:opsDG c anc e0 h0 i d n false r log s e h (.bool (decide p)) =
  ((¬p→insG c anc e0 h0 i d [n] r log s (put n (.bool false) e) h)∧(p→opsD c anc e0 h0 r (⟨d,none,[n],[],[]⟩::log) s ⟨a7a d (put n (.bool true) e),h⟩)):=by
 rw [opsDG_bool];simp [a4q]
end
theorem go_loop {b:MC} {α:Type} (I:α→St) (p:α→Prop) (μ:α→Nat) (ns:List a4y) (h0:a0m c.H0 ns ⟨e,h⟩ fun σ'=>∃x,p x∧a0v (I x) σ')
  (round:∀x,p x→factsSt (I x)→go ⟨c.P,c.H0,fun σ'=>Lk (a0m c.H0 ns σ' fun σ'=>∃y,p y∧μ y<μ x∧a0v (I y) σ'),kX c s,c.R⟩ b [] (I x)):go c (.loop b) s ⟨e,h⟩:=by
 unfold go MWP
 refine Lk.mk ⟨α,I,p,μ,ns,h0,fun x hp hf=>?_⟩
 have:=round x hp hf
 unfold go at this
 have e1:kN ⟨c.P,c.H0,fun σ'=>Lk (a0m c.H0 ns σ' fun σ'=>∃y,p y∧μ y<μ x∧a0v (I y) σ'),kX c s,c.R⟩ []=fun σ'=>Lk (a0m c.H0 ns σ' fun σ'=>∃y,p y∧μ y<μ x∧a0v (I y) σ'):=by funext σ;simp only [kN]
 have e2:kX ⟨c.P,c.H0,fun σ'=>Lk (a0m c.H0 ns σ' fun σ'=>∃y,p y∧μ y<μ x∧a0v (I y) σ'),kX c s,c.R⟩ []=kX c s:=by funext n σ;simp only [kX]
 rw [e1,e2] at this
 exact this
theorem go_grp {ms:List MOp} {its:List It} {α:Type} (I:α→St) (p:α→Prop) (h1:ops ⟨c.P,c.H0,fun σ'=>Lk (∃y,p y∧a0v (I y) σ'),fun _ _=>False,fun _=>False⟩ ms [] ⟨e,h⟩)
  (h2:∀y,p y→factsSt (I y)→kN c (.it its::s) (I y)):grpC c ms its s ⟨e,h⟩:=by
 unfold grpC
 refine Lk.mk ⟨α,I,p,?_,h2⟩
 unfold ops at h1
 have e1:kN ⟨c.P,c.H0,fun σ'=>Lk (∃y,p y∧a0v (I y) σ'),fun _ _=>False,fun _=>False⟩ []=fun σ'=>Lk (∃y,p y∧a0v (I y) σ'):=by funext σ;simp only [kN]
 rw [e1] at h1
 exact h1
end
theorem go_cut {c:Cfg} {e:List (Nat×V)} {h:Heap} {s:List Fr} {a b:MC} {α:Type} (I:α→St) (p:α→Prop) (ns:List a4y)
  (h1:go ⟨c.P,c.H0,fun σ'=>Lk (a0m c.H0 ns σ' fun σ'=>∃y,p y∧a0v (I y) σ'),kX c s,c.R⟩ a [] ⟨e,h⟩) (h2:∀y,p y→factsSt (I y)→go c b s (I y)):go c (.cut a b) s ⟨e,h⟩:=by
 unfold go MWP
 refine Lk.mk ⟨α,I,p,ns,?_,h2⟩
 unfold go at h1
 have e1:kN ⟨c.P,c.H0,fun σ'=>Lk (a0m c.H0 ns σ' fun σ'=>∃y,p y∧a0v (I y) σ'),kX c s,c.R⟩ []=fun σ'=>Lk (a0m c.H0 ns σ' fun σ'=>∃y,p y∧a0v (I y) σ'):=by funext σ;simp only [kN]
 have e2:kX ⟨c.P,c.H0,fun σ'=>Lk (a0m c.H0 ns σ' fun σ'=>∃y,p y∧a0v (I y) σ'),kX c s,c.R⟩ []=kX c s:=by funext n σ;simp only [kX]
 rw [e1,e2] at h1
 exact h1
def MC.straight:MC→Bool
 | .skip=>true
 | .reg _=>true
 | .regI _=>true
 | .regD _ _ _=>true
 | .seq a b=>a.straight&&b.straight
 | _=>false
theorem a8g {P:Program} {H0:Heap} {X X':Nat→St→Prop} {R R':St→Prop}:∀{a:MC} {K:St→Prop} {σ:St},a.straight=true→MWP P H0 a K X R σ=MWP P H0 a K X' R' σ
 | .skip,_,_,_=>by simp only [MWP]
 | .reg _,_,_,_=>by simp only [MWP]
 | .regI _,_,_,_=>by simp only [MWP]
 | .regD _ _ _,_,_,_=>by simp only [MWP]
 | .seq a b,K,σ,h=>by
  simp only [MC.straight,wC] at h
  simp only [MWP]
  rw [a8g (a:=a) h.1]
  congr 1
  funext σ'
  exact a8g (a:=b) h.2
 | .cut _ _,_,_,h=>by simp [MC.straight] at h
 | .cond _ _ _,_,_,h=>by simp [MC.straight] at h
 | .block _ _,_,_,h=>by simp [MC.straight] at h
 | .loop _,_,_,h=>by simp [MC.straight] at h
 | .note _ _,_,_,h=>by simp [MC.straight] at h
 | .hnote _ _,_,_,h=>by simp [MC.straight] at h
 | .no,_,_,h=>by simp [MC.straight] at h
 | .rngF _ _ _ _,_,_,h=>by simp [MC.straight] at h
 | .ret,_,_,h=>by simp [MC.straight] at h
 | .exit _,_,_,h=>by simp [MC.straight] at h
theorem go_rngF {c:Cfg} {e:List (Nat×V)} {h:Heap} {s:List Fr} {q:Opd} {ps:List Nat} {a b:MC} {gf:Nat} {caps:List V} {α:Type} (Hc:Heap) (xss:List (List V)) (pins:List Nat) (I:Nat→α→Heap) (p:Nat→α→Prop) (ns:List a4y)
  (hq:q.ev e=.fn (.func gf) caps) (hit:b8k c.P gf caps Hc xss) (hsc:a0v ⟨[],Hc⟩ ⟨e,h⟩) (hpin:c06 pins e=true) (hxs:∀xs∈xss,xs.length=ps.length∧V.withinL [] xs=true) (h0:∃x,p 0 x∧a0v ⟨[],I 0 x⟩ ⟨e,h⟩∧∀q∈Hc,find q.1 (I 0 x)=none)
  (round:∀k x xs,xss[k]?=some xs→p k x→b0p (I k x)→go ⟨c.P,b7l c.H0 pins,fun σ'=>Lk (a0m (b7l c.H0 pins) ns σ' fun σ'=>∃y,p (k+1) y∧a0v ⟨[],I (k+1) y⟩ σ'),fun i σ'=>kX c s i ⟨e,σ'.heap⟩,fun σ'=>c.R ⟨e,σ'.heap⟩⟩ (.seq a b) [] ⟨b5m ps xs e,I k x⟩)
  (ha:a.straight=true) (hdone:∀x,p xss.length x→kN c s ⟨e,I xss.length x⟩):go c (.rngF q ps a b) s ⟨e,h⟩:=by
 unfold go MWP
 simp only [hq]
 refine Lk.mk ⟨Hc,xss,pins,α,I,p,ns,hit,hsc,hpin,hxs,h0,fun k x xs hk hp hf=>?_,hdone⟩
 have:=round k x xs hk hp hf
 unfold go MWP at this
 have e1:∀(P:Program) (H:Heap) (K:St→Prop) (X:Nat→St→Prop) (R:St→Prop),kN ⟨P,H,K,X,R⟩ []=K:=fun _ _ _ _ _=>by funext σ;simp only [kN]
 have e2:∀(P:Program) (H:Heap) (K:St→Prop) (X:Nat→St→Prop) (R:St→Prop),kX ⟨P,H,K,X,R⟩ []=X:=fun _ _ _ _ _=>by funext n σ;simp only [kX]
 rw [e1,e2] at this
 simp only [MWP] at this
 rw [a8g ha]
 exact this
theorem c3l {P:Program} {n:Nat} {args:List V} {cap:List V} {ids news:List Nat} {ob:Nat→Option a0g} {L:Eff→Prop} {H H1:Heap} {r:V} (hc:a0o P n (args++cap) H (fun r' H'=>r'=r∧H'=H1)) (hs:b8r ids ob=some H)
  (hi:b1z H1 ids news=true) (hl:L ⟨r,ids,H1⟩):b39 P (.fn (.func n) cap) args ids news ob L:=by
 unfold b39
 simp only [hs]
 exact hc.mono fun r' H' ⟨e1,e2⟩=>by subst e1;subst e2;rw [hi];exact hl
theorem c81 {P:Program} {n:Nat} {args:List V} {cap:List V} {ids news:List Nat} {ob:Nat→Option a0g} {L:Eff→Prop} {H H1:Heap} {r:V} (hc:a0o P n (args++cap) H (fun r' H'=>r'=r∧H'=H1)) (hs:b8r ids ob=some H)
  (hi:b1z H1 ids news=true) (hl:L ⟨r,ids,H1⟩):b42 P (.fn (.func n) cap) args ids news ob L:=by
 unfold b42
 simp only [hs]
 exact ⟨r,H1,hc,hi,hl⟩
theorem c4x {P:Program} {f:Nat} {fn:Func} {code:Code} {mc:MC} {args:List V} {H:Heap} {Q:V→Heap→Prop} (ns:List a4y) (rids:List Nat) (rs:List RS) (hf:P.funcs[f]?=some fn) (hb:fn.body=some code) (hc:callable P f=true)
  (hnh:mc.nh=true) (hok:mc.ok P fn.ntmps code=true) (hrs:a6s P rs fn.results.toList=true) (hn:Nat.ble args.length fn.ntmps=true) (hg:St.good ⟨a4t 0 args,H⟩=true)
  (h:factsSt ⟨a4t 0 args,H⟩→go ⟨P,H,a2j H ns rids rs Q,fun _ _=>False,a2j H ns rids rs Q⟩ mc [] ⟨a4t 0 args,H⟩):a0o P f args H Q:=by
 refine d1r ns rids rs hf hb hc hnh hok hrs hn hg fun hfa=>?_
 have:=h hfa
 unfold go at this
 have e1:kN ⟨P,H,a2j H ns rids rs Q,fun _ _=>False,a2j H ns rids rs Q⟩ []=a2j H ns rids rs Q:=by funext σ;simp only [kN]
 have e2:kX ⟨P,H,a2j H ns rids rs Q,fun _ _=>False,a2j H ns rids rs Q⟩ []=fun _ _=>False:=by funext n σ;simp only [kX]
 rw [e1,e2] at this
 exact this
attribute [irreducible] f7s
def ints (l:List Int):V:=.sl (l.map fun n=>.int .i64 n)
def tape (l:List Int) (k:Nat):a0g:=.cells [ints l,.int .i64 k]
structure a10 where
 grpC:Cfg→List MOp→List It→List Fr→St→Prop
 kN:Cfg→List Fr→St→Prop
 kX:Cfg→List Fr→Nat→St→Prop
 go:Cfg→MC→List Fr→St→Prop
 ops:Cfg→List MOp→List Fr→St→Prop
 aft:Cfg→Option Nat→List MOp→List Fr→List (Nat×V)→Heap→Eff→Prop
 lok:Cfg→Option Nat→List MOp→List Fr→List (Nat×V)→Heap→Eff→Prop
 b5k:Cfg→a02→Option Nat→Nat→Bool→List MOp→List Fr→List (Nat×V)→Heap→V→Prop
 goC:Cfg→Opd→MC→MC→List Fr→List (Nat×V)→Heap→V→Prop
 opsD:Cfg→List (List Nat)→List (Nat×V)→Heap→List MOp→List Ent→List Fr→St→Prop
 aftD:Cfg→List (List Nat)→List (Nat×V)→Heap→Option Nat→List Nat→List Nat→List Nat→List MOp→List Ent→List Fr→List (Nat×V)→Heap→Eff→Prop
 lokD:Cfg→List (List Nat)→List (Nat×V)→Heap→Option Nat→List Nat→List Nat→List Nat→List MOp→List Ent→List Fr→List (Nat×V)→Heap→Eff→Prop
 insG:Cfg→List (List Nat)→List (Nat×V)→Heap→a02→Option Nat→List Nat→List MOp→List Ent→List Fr→List (Nat×V)→Heap→Prop
 opsDG:Cfg→List (List Nat)→List (Nat×V)→Heap→a02→Option Nat→Nat→Bool→List MOp→List Ent→List Fr→List (Nat×V)→Heap→V→Prop
 go_regI:∀{c:Cfg} {e:List (Nat×V)} {h:Heap} {s:List Fr} {its:List It},go c (.regI its) s ⟨e,h⟩=kN c (.it its::s) ⟨e,h⟩
 kN_it_nil:∀{c:Cfg} {e:List (Nat×V)} {h:Heap} {s:List Fr},kN c (.it []::s) ⟨e,h⟩=kN c s ⟨e,h⟩
 kN_it_op:∀{c:Cfg} {e:List (Nat×V)} {h:Heap} {s:List Fr} {m:MOp} {its:List It},kN c (.it (.op m::its)::s) ⟨e,h⟩=ops c [m] (.it its::s) ⟨e,h⟩
 kN_it_nt:∀{c:Cfg} {e:List (Nat×V)} {h:Heap} {s:List Fr} {n:a4y} {its:List It},kN c (.it (.nt n::its)::s) ⟨e,h⟩=a0t c.H0 n ⟨e,h⟩ (kN c (.it its::s))
 kN_it_grp:∀{c:Cfg} {e:List (Nat×V)} {h:Heap} {s:List Fr} {ms:List MOp} {its:List It},kN c (.it (.grp ms::its)::s) ⟨e,h⟩=grpC c ms its s ⟨e,h⟩
 kX_it:∀{c:Cfg} {e:List (Nat×V)} {h:Heap} {s:List Fr} {its:List It} {n:Nat},kX c (.it its::s) n ⟨e,h⟩=kX c s n ⟨e,h⟩
 go_seq:∀{c:Cfg} {e:List (Nat×V)} {h:Heap} {s:List Fr} {a b:MC},go c (.seq a b) s ⟨e,h⟩=go c a (.sq b::s) ⟨e,h⟩
 go_block:∀{c:Cfg} {e:List (Nat×V)} {h:Heap} {s:List Fr} {id:Nat} {b:MC},go c (.block id b) s ⟨e,h⟩=go c b (.bl id::s) ⟨e,h⟩
 go_skip:∀{c:Cfg} {e:List (Nat×V)} {h:Heap} {s:List Fr},go c .skip s ⟨e,h⟩=kN c s ⟨e,h⟩
 go_ret:∀{c:Cfg} {e:List (Nat×V)} {h:Heap} {s:List Fr},go c .ret s ⟨e,h⟩=c.R ⟨e,h⟩
 go_exit:∀{c:Cfg} {e:List (Nat×V)} {h:Heap} {s:List Fr} {id:Nat},go c (.exit id) s ⟨e,h⟩=kX c s id ⟨e,h⟩
 go_reg:∀{c:Cfg} {e:List (Nat×V)} {h:Heap} {s:List Fr} {ms:List MOp},go c (.reg ms) s ⟨e,h⟩=ops c ms s ⟨e,h⟩
 go_cond:∀{c:Cfg} {e:List (Nat×V)} {h:Heap} {s:List Fr} {x:Opd} {a b:MC},go c (.cond x a b) s ⟨e,h⟩=goC c x a b s e h (x.ev e)
 go_note:∀{c:Cfg} {e:List (Nat×V)} {h:Heap} {s:List Fr} {n:a4y} {b:MC},go c (.note n b) s ⟨e,h⟩=a0t c.H0 n ⟨e,h⟩ (go c b s)
 go_hnote:∀{c:Cfg} {e:List (Nat×V)} {h:Heap} {s:List Fr} {T:St→(St→Prop)→Prop} {b:MC},go c (.hnote T b) s ⟨e,h⟩=T ⟨e,h⟩ (go c b s)
 kN_nil:∀{c:Cfg} {e:List (Nat×V)} {h:Heap},kN c [] ⟨e,h⟩=c.K ⟨e,h⟩
 kN_sq:∀{c:Cfg} {e:List (Nat×V)} {h:Heap} {s:List Fr} {b:MC},kN c (.sq b::s) ⟨e,h⟩=go c b s ⟨e,h⟩
 kN_bl:∀{c:Cfg} {e:List (Nat×V)} {h:Heap} {s:List Fr} {id:Nat},kN c (.bl id::s) ⟨e,h⟩=kN c s ⟨e,h⟩
 kX_nil:∀{c:Cfg} {e:List (Nat×V)} {h:Heap} {n:Nat},kX c [] n ⟨e,h⟩=c.X n ⟨e,h⟩
 kX_sq:∀{c:Cfg} {e:List (Nat×V)} {h:Heap} {s:List Fr} {b:MC} {n:Nat},kX c (.sq b::s) n ⟨e,h⟩=kX c s n ⟨e,h⟩
 kX_bl':∀{c:Cfg} {e:List (Nat×V)} {h:Heap} {s:List Fr} {id n:Nat},kX c (.bl id::s) n ⟨e,h⟩=bif n==id then kN c s ⟨e,h⟩ else kX c s n ⟨e,h⟩
 ops_nil:∀{c:Cfg} {e:List (Nat×V)} {h:Heap} {s:List Fr},ops c [] s ⟨e,h⟩=kN c s ⟨e,h⟩
 ops_guard:∀{c:Cfg} {e:List (Nat×V)} {h:Heap} {s:List Fr} {r:List MOp} {d:Option Nat} {i:a02} {t:Nat} {w:Bool},ops c (⟨i,d,some (t,w)⟩::r) s ⟨e,h⟩=b5k c i d t w r s e h (get t e)
 ops_ins:∀{c:Cfg} {e:List (Nat×V)} {h:Heap} {s:List Fr} {r:List MOp} {d:Option Nat} {i:a02},ops c (⟨i,d,none⟩::r) s ⟨e,h⟩=bif a1k c.H0 ⟨e,h⟩ (i.creates (d.getD 0)) then o7 c.P i (d.getD 0) (i.opds.map (·.ev e)) (c5t h) (aft c d r s e h) (lok c d r s e h) else False
 aft_eq:∀{c:Cfg} {e:List (Nat×V)} {h:Heap} {s:List Fr} {r:List MOp} {d:Option Nat} {v:V} {dr:List Nat} {nw:List (Nat×a0g)},aft c d r s e h ⟨v,dr,nw⟩=ops c r s ⟨c57 d v e,puts nw (d0x dr h)⟩
 aft_some:∀{c:Cfg} {e:List (Nat×V)} {h:Heap} {s:List Fr} {r:List MOp} {n:Nat} {v:V},a0u (aft c (some n) r s e h) v=ops c r s ⟨put n v e,h⟩
 aft_none:∀{c:Cfg} {e:List (Nat×V)} {h:Heap} {s:List Fr} {r:List MOp} {v:V},a0u (aft c none r s e h) v=ops c r s ⟨e,h⟩
 aft_up:∀{c:Cfg} {e:List (Nat×V)} {h:Heap} {s:List Fr} {r:List MOp} {n:Nat} {id:Nat} {o:a0g},a8y (aft c (some n) r s e h) id o=ops c r s ⟨put n .any e,put id o h⟩
 aft_upn:∀{c:Cfg} {e:List (Nat×V)} {h:Heap} {s:List Fr} {r:List MOp} {id:Nat} {o:a0g},a8y (aft c none r s e h) id o=ops c r s ⟨e,put id o h⟩
 lok_eq:∀{c:Cfg} {d:Option Nat} {r:List MOp} {s:List Fr} {e:List (Nat×V)} {h:Heap} {f:Eff},lok c d r s e h f=aft c d r s e h f
 lok_comp:∀{c:Cfg} {e:List (Nat×V)} {h:Heap} {s:List Fr} {r:List MOp} {d:Option Nat} {v:V},a0u (lok c d r s e h) v=a0u (aft c d r s e h) v
 lok_compU:∀{c:Cfg} {e:List (Nat×V)} {h:Heap} {s:List Fr} {r:List MOp} {d:Option Nat} {id:Nat} {o:a0g},a8y (lok c d r s e h) id o=a8y (aft c d r s e h) id o
 opsG_tup:∀{c:Cfg} {e:List (Nat×V)} {h:Heap} {s:List Fr} {r:List MOp} {d:Option Nat} {i:a02} {t:Nat} {w:Bool},b5k c i d t w r s e h (.tup [])=ops c r s ⟨a7a d e,h⟩
 opsG_lit_tt:∀{c:Cfg} {e:List (Nat×V)} {h:Heap} {s:List Fr} {r:List MOp} {d:Option Nat} {i:a02} {t:Nat},b5k c i d t true r s e h (.bool true)=ops c (⟨i,d,none⟩::r) s ⟨put t (.bool true) e,h⟩
 opsG_lit_ff:∀{c:Cfg} {e:List (Nat×V)} {h:Heap} {s:List Fr} {r:List MOp} {d:Option Nat} {i:a02} {t:Nat},b5k c i d t false r s e h (.bool false)=ops c (⟨i,d,none⟩::r) s ⟨put t (.bool false) e,h⟩
 opsG_lit_tf:∀{c:Cfg} {e:List (Nat×V)} {h:Heap} {s:List Fr} {r:List MOp} {d:Option Nat} {i:a02} {t:Nat},b5k c i d t false r s e h (.bool true)=ops c r s ⟨a7a d (put t (.bool true) e),h⟩
 opsG_lit_ft:∀{c:Cfg} {e:List (Nat×V)} {h:Heap} {s:List Fr} {r:List MOp} {d:Option Nat} {i:a02} {t:Nat},b5k c i d t true r s e h (.bool false)=ops c r s ⟨a7a d (put t (.bool false) e),h⟩
 b1q:∀{c:Cfg} {e:List (Nat×V)} {h:Heap} {s:List Fr} {r:List MOp} {d:Option Nat} {i:a02} {t:Nat} {p:Prop} [Decidable p],b5k c i d t true r s e h (.bool (decide p)) =
  ((p→ops c (⟨i,d,none⟩::r) s ⟨put t (.bool true) e,h⟩)∧(¬p→ops c r s ⟨a7a d (put t (.bool false) e),h⟩))
 b1r:∀{c:Cfg} {e:List (Nat×V)} {h:Heap} {s:List Fr} {r:List MOp} {d:Option Nat} {i:a02} {t:Nat} {p:Prop} [Decidable p],b5k c i d t false r s e h (.bool (decide p)) =
  ((¬p→ops c (⟨i,d,none⟩::r) s ⟨put t (.bool false) e,h⟩)∧(p→ops c r s ⟨a7a d (put t (.bool true) e),h⟩))
 opsG_any:∀{c:Cfg} {e:List (Nat×V)} {h:Heap} {s:List Fr} {r:List MOp} {d:Option Nat} {i:a02} {t:Nat} {w:Bool} (b:Bool),b5k c i d t w r s e h (.bool b) =
  ((b=w→ops c (⟨i,d,none⟩::r) s ⟨put t (.bool w) e,h⟩)∧(b=(!w)→ops c r s ⟨a7a d (put t (.bool (!w)) e),h⟩))
 goC_t:∀{c:Cfg} {e:List (Nat×V)} {h:Heap} {s:List Fr} {n:Nat} {a b:MC},goC c (.t n) a b s e h (.bool true)=go c a s ⟨put n (.bool true) e,h⟩
 goC_f:∀{c:Cfg} {e:List (Nat×V)} {h:Heap} {s:List Fr} {n:Nat} {a b:MC},goC c (.t n) a b s e h (.bool false)=go c b s ⟨put n (.bool false) e,h⟩
 goC_ct:∀{c:Cfg} {e:List (Nat×V)} {h:Heap} {s:List Fr} {v:V} {a b:MC},goC c (.c v) a b s e h (.bool true)=go c a s ⟨e,h⟩
 goC_cf:∀{c:Cfg} {e:List (Nat×V)} {h:Heap} {s:List Fr} {v:V} {a b:MC},goC c (.c v) a b s e h (.bool false)=go c b s ⟨e,h⟩
 c2b:∀{c:Cfg} {e:List (Nat×V)} {h:Heap} {s:List Fr} {n:Nat} {a b:MC} {p:Prop} [Decidable p],goC c (.t n) a b s e h (.bool (decide p)) =
  ((p→go c a s ⟨put n (.bool true) e,h⟩)∧(¬p→go c b s ⟨put n (.bool false) e,h⟩))
 goC_any:∀{c:Cfg} {e:List (Nat×V)} {h:Heap} {s:List Fr} {n:Nat} {a b:MC} (t:Bool),goC c (.t n) a b s e h (.bool t) =
  ((t=true→go c a s ⟨put n (.bool true) e,h⟩)∧(t=false→go c b s ⟨put n (.bool false) e,h⟩))
 go_regD:∀{c:Cfg} {e:List (Nat×V)} {h:Heap} {s:List Fr} {anc:List (List Nat)} {aft0:List (List Nat)} {ms:List MOp},go c (.regD ms aft0 anc) s ⟨e,h⟩=opsD c anc e h ms [] s ⟨e,h⟩
 opsD_nil:∀{c:Cfg} {e:List (Nat×V)} {h:Heap} {s:List Fr} {anc:List (List Nat)} {e0:List (Nat×V)} {h0:Heap} {log:List Ent},opsD c anc e0 h0 [] log s ⟨e,h⟩=(f7s c.H0 ⟨e0,h0⟩ 0 anc log.reverse∧kN c s ⟨e,h⟩)
 opsD_ins:∀{c:Cfg} {e:List (Nat×V)} {h:Heap} {s:List Fr} {r:List MOp} {d:Option Nat} {i:a02} {anc:List (List Nat)} {e0:List (Nat×V)} {h0:Heap} {log:List Ent},opsD c anc e0 h0 (⟨i,d,none⟩::r) log s ⟨e,h⟩=insG c anc e0 h0 i d [] r log s e h
 opsD_guard:∀{c:Cfg} {e:List (Nat×V)} {h:Heap} {s:List Fr} {r:List MOp} {d:Option Nat} {i:a02} {anc:List (List Nat)} {e0:List (Nat×V)} {h0:Heap} {log:List Ent} {n:Nat} {w:Bool},opsD c anc e0 h0 (⟨i,d,some (n,w)⟩::r) log s ⟨e,h⟩=opsDG c anc e0 h0 i d n w r log s e h (get n e)
 insG_eq:∀{c:Cfg} {e:List (Nat×V)} {h:Heap} {s:List Fr} {r:List MOp} {d:Option Nat} {i:a02} {anc:List (List Nat)} {e0:List (Nat×V)} {h0:Heap} {log:List Ent} {gs:List Nat},insG c anc e0 h0 i d gs r log s e h=bif a1k c.H0 ⟨e,h⟩ (i.creates (d.getD 0)) then
  a18 c.P i (d.getD 0) (i.opds.map (·.ev e)) (c5t h) (aftD c anc e0 h0 d (gs++slotsOf i.opds) (i.touch (i.opds.map (·.ev e))) (i.creates (d.getD 0)) r log s e h)
   (lokD c anc e0 h0 d (gs++slotsOf i.opds) (i.touch (i.opds.map (·.ev e))) (i.creates (d.getD 0)) r log s e h)
 else False
 aftD_eq:∀{c:Cfg} {e:List (Nat×V)} {h:Heap} {s:List Fr} {r:List MOp} {d:Option Nat} {anc:List (List Nat)} {e0:List (Nat×V)} {h0:Heap} {log:List Ent} {u:List Nat} {t:List Nat} {m:List Nat} {v:V} {dr:List Nat} {nw:List (Nat×a0g)},aftD c anc e0 h0 d u t m r log s e h ⟨v,dr,nw⟩=opsD c anc e0 h0 r (⟨d,some ⟨v,dr,nw⟩,u,t,m⟩::log) s ⟨c57 d v e,puts nw (d0x dr h)⟩
 aftD_comp:∀{c:Cfg} {e:List (Nat×V)} {h:Heap} {s:List Fr} {r:List MOp} {d:Option Nat} {anc:List (List Nat)} {e0:List (Nat×V)} {h0:Heap} {log:List Ent} {u:List Nat} {t:List Nat} {m:List Nat} {v:V},a0u (aftD c anc e0 h0 d u t m r log s e h) v=opsD c anc e0 h0 r (⟨d,some ⟨v,[],[]⟩,u,t,m⟩::log) s ⟨c57 d v e,h⟩
 aftD_up:∀{c:Cfg} {e:List (Nat×V)} {h:Heap} {s:List Fr} {r:List MOp} {d:Option Nat} {anc:List (List Nat)} {e0:List (Nat×V)} {h0:Heap} {log:List Ent} {u:List Nat} {t:List Nat} {m:List Nat} {id:Nat} {o:a0g},a8y (aftD c anc e0 h0 d u t m r log s e h) id o=opsD c anc e0 h0 r (⟨d,some ⟨.any,[],[(id,o)]⟩,u,t,m⟩::log) s ⟨c57 d .any e,put id o h⟩
 lokD_eq:∀{c:Cfg} {e:List (Nat×V)} {h:Heap} {s:List Fr} {r:List MOp} {d:Option Nat} {anc:List (List Nat)} {e0:List (Nat×V)} {h0:Heap} {log:List Ent} {u:List Nat} {t:List Nat} {m:List Nat} {f:Eff},lokD c anc e0 h0 d u t m r log s e h f=aftD c anc e0 h0 d u t m r log s e h f
 lokD_comp:∀{c:Cfg} {e:List (Nat×V)} {h:Heap} {s:List Fr} {r:List MOp} {d:Option Nat} {anc:List (List Nat)} {e0:List (Nat×V)} {h0:Heap} {log:List Ent} {u:List Nat} {t:List Nat} {m:List Nat} {v:V},a0u (lokD c anc e0 h0 d u t m r log s e h) v=a0u (aftD c anc e0 h0 d u t m r log s e h) v
 lokD_compU:∀{c:Cfg} {e:List (Nat×V)} {h:Heap} {s:List Fr} {r:List MOp} {d:Option Nat} {anc:List (List Nat)} {e0:List (Nat×V)} {h0:Heap} {log:List Ent} {u:List Nat} {t:List Nat} {m:List Nat} {id:Nat} {o:a0g},a8y (lokD c anc e0 h0 d u t m r log s e h) id o=a8y (aftD c anc e0 h0 d u t m r log s e h) id o
 opsDG_tup:∀{c:Cfg} {e:List (Nat×V)} {h:Heap} {s:List Fr} {r:List MOp} {d:Option Nat} {i:a02} {anc:List (List Nat)} {e0:List (Nat×V)} {h0:Heap} {log:List Ent} {n:Nat} {w:Bool},opsDG c anc e0 h0 i d n w r log s e h (.tup [])=opsD c anc e0 h0 r (⟨d,none,[n],[],[]⟩::log) s ⟨a7a d e,h⟩
 opsDG_tt:∀{c:Cfg} {e:List (Nat×V)} {h:Heap} {s:List Fr} {r:List MOp} {d:Option Nat} {i:a02} {anc:List (List Nat)} {e0:List (Nat×V)} {h0:Heap} {log:List Ent} {n:Nat},opsDG c anc e0 h0 i d n true r log s e h (.bool true)=insG c anc e0 h0 i d [n] r log s (put n (.bool true) e) h
 opsDG_ff:∀{c:Cfg} {e:List (Nat×V)} {h:Heap} {s:List Fr} {r:List MOp} {d:Option Nat} {i:a02} {anc:List (List Nat)} {e0:List (Nat×V)} {h0:Heap} {log:List Ent} {n:Nat},opsDG c anc e0 h0 i d n false r log s e h (.bool false)=insG c anc e0 h0 i d [n] r log s (put n (.bool false) e) h
 opsDG_tf:∀{c:Cfg} {e:List (Nat×V)} {h:Heap} {s:List Fr} {r:List MOp} {d:Option Nat} {i:a02} {anc:List (List Nat)} {e0:List (Nat×V)} {h0:Heap} {log:List Ent} {n:Nat},opsDG c anc e0 h0 i d n false r log s e h (.bool true)=opsD c anc e0 h0 r (⟨d,none,[n],[],[]⟩::log) s ⟨a7a d (put n (.bool true) e),h⟩
 opsDG_ft:∀{c:Cfg} {e:List (Nat×V)} {h:Heap} {s:List Fr} {r:List MOp} {d:Option Nat} {i:a02} {anc:List (List Nat)} {e0:List (Nat×V)} {h0:Heap} {log:List Ent} {n:Nat},opsDG c anc e0 h0 i d n true r log s e h (.bool false)=opsD c anc e0 h0 r (⟨d,none,[n],[],[]⟩::log) s ⟨a7a d (put n (.bool false) e),h⟩
 a9b:∀{c:Cfg} {e:List (Nat×V)} {h:Heap} {s:List Fr} {r:List MOp} {d:Option Nat} {i:a02} {anc:List (List Nat)} {e0:List (Nat×V)} {h0:Heap} {log:List Ent} {n:Nat} {p:Prop} [Decidable p],opsDG c anc e0 h0 i d n true r log s e h (.bool (decide p)) =
  ((p→insG c anc e0 h0 i d [n] r log s (put n (.bool true) e) h)∧(¬p→opsD c anc e0 h0 r (⟨d,none,[n],[],[]⟩::log) s ⟨a7a d (put n (.bool false) e),h⟩))
 a9c:∀{c:Cfg} {e:List (Nat×V)} {h:Heap} {s:List Fr} {r:List MOp} {d:Option Nat} {i:a02} {anc:List (List Nat)} {e0:List (Nat×V)} {h0:Heap} {log:List Ent} {n:Nat} {p:Prop} [Decidable p],opsDG c anc e0 h0 i d n false r log s e h (.bool (decide p)) =
  ((¬p→insG c anc e0 h0 i d [n] r log s (put n (.bool false) e) h)∧(p→opsD c anc e0 h0 r (⟨d,none,[n],[],[]⟩::log) s ⟨a7a d (put n (.bool true) e),h⟩))
 opsDG_bool:∀{c:Cfg} {e:List (Nat×V)} {h:Heap} {s:List Fr} {r:List MOp} {d:Option Nat} {i:a02} {anc:List (List Nat)} {e0:List (Nat×V)} {h0:Heap} {log:List Ent} {n:Nat} {w b:Bool},opsDG c anc e0 h0 i d n w r log s e h (.bool b) =
  a4q b w (insG c anc e0 h0 i d [n] r log s (put n (.bool w) e) h) (opsD c anc e0 h0 r (⟨d,none,[n],[],[]⟩::log) s ⟨a7a d (put n (.bool (!w)) e),h⟩)
 go_loop:∀{c:Cfg} {e:List (Nat×V)} {h:Heap} {s:List Fr} {b:MC} {α:Type} (I:α→St) (p:α→Prop) (μ:α→Nat) (ns:List a4y),(a0m c.H0 ns ⟨e,h⟩ fun σ'=>∃x,p x∧a0v (I x) σ') →
  (∀x,p x→factsSt (I x)→go ⟨c.P,c.H0,fun σ'=>Lk (a0m c.H0 ns σ' fun σ'=>∃y,p y∧μ y<μ x∧a0v (I y) σ'),kX c s,c.R⟩ b [] (I x))→go c (.loop b) s ⟨e,h⟩
 go_cut:∀{c:Cfg} {e:List (Nat×V)} {h:Heap} {s:List Fr} {a b:MC} {α:Type} (I:α→St) (p:α→Prop) (ns:List a4y),go ⟨c.P,c.H0,fun σ'=>Lk (a0m c.H0 ns σ' fun σ'=>∃y,p y∧a0v (I y) σ'),kX c s,c.R⟩ a [] ⟨e,h⟩ →
  (∀y,p y→factsSt (I y)→go c b s (I y))→go c (.cut a b) s ⟨e,h⟩
 go_grp:∀{c:Cfg} {e:List (Nat×V)} {h:Heap} {s:List Fr} {ms:List MOp} {its:List It} {α:Type} (I:α→St) (p:α→Prop),ops ⟨c.P,c.H0,fun σ'=>Lk (∃y,p y∧a0v (I y) σ'),fun _ _=>False,fun _=>False⟩ ms [] ⟨e,h⟩ →
  (∀y,p y→factsSt (I y)→kN c (.it its::s) (I y))→grpC c ms its s ⟨e,h⟩
 go_rngF:∀{c:Cfg} {e:List (Nat×V)} {h:Heap} {s:List Fr} {q:Opd} {ps:List Nat} {a b:MC} {gf:Nat} {caps:List V} {α:Type} (Hc:Heap) (xss:List (List V)) (pins:List Nat) (I:Nat→α→Heap) (p:Nat→α→Prop) (ns:List a4y),
  q.ev e=.fn (.func gf) caps→b8k c.P gf caps Hc xss→a0v ⟨[],Hc⟩ ⟨e,h⟩→c06 pins e=true→(∀xs∈xss,xs.length=ps.length∧V.withinL [] xs=true)→(∃x,p 0 x∧a0v ⟨[],I 0 x⟩ ⟨e,h⟩∧∀q∈Hc,find q.1 (I 0 x)=none) →
  (∀k x xs,xss[k]?=some xs→p k x→b0p (I k x)→go ⟨c.P,b7l c.H0 pins,fun σ'=>Lk (a0m (b7l c.H0 pins) ns σ' fun σ'=>∃y,p (k+1) y∧a0v ⟨[],I (k+1) y⟩ σ'),fun i σ'=>kX c s i ⟨e,σ'.heap⟩,fun σ'=>c.R ⟨e,σ'.heap⟩⟩ (.seq a b) [] ⟨b5m ps xs e,I k x⟩) →
  a.straight=true→(∀x,p xss.length x→kN c s ⟨e,I xss.length x⟩)→go c (.rngF q ps a b) s ⟨e,h⟩
def g35:a10 where
 grpC:=grpC
 kN:=kN
 kX:=kX
 go:=go
 ops:=ops
 aft:=aft
 lok:=lok
 b5k:=b5k
 goC:=goC
 opsD:=opsD
 aftD:=aftD
 lokD:=lokD
 insG:=insG
 opsDG:=opsDG
 go_regI:=go_regI
 kN_it_nil:=kN_it_nil
 kN_it_op:=kN_it_op
 kN_it_nt:=kN_it_nt
 kN_it_grp:=kN_it_grp
 kX_it:=kX_it
 go_seq:=go_seq
 go_block:=go_block
 go_skip:=go_skip
 go_ret:=go_ret
 go_exit:=go_exit
 go_reg:=go_reg
 go_cond:=go_cond
 go_note:=go_note
 go_hnote:=go_hnote
 kN_nil:=kN_nil
 kN_sq:=kN_sq
 kN_bl:=kN_bl
 kX_nil:=kX_nil
 kX_sq:=kX_sq
 kX_bl':=kX_bl'
 ops_nil:=ops_nil
 ops_guard:=ops_guard
 ops_ins:=ops_ins
 aft_eq:=aft_eq
 aft_some:=aft_some
 aft_none:=aft_none
 aft_up:=aft_up
 aft_upn:=aft_upn
 lok_eq:=lok_eq
 lok_comp:=lok_comp
 lok_compU:=lok_compU
 opsG_tup:=opsG_tup
 opsG_lit_tt:=opsG_lit_tt
 opsG_lit_ff:=opsG_lit_ff
 opsG_lit_tf:=opsG_lit_tf
 opsG_lit_ft:=opsG_lit_ft
 b1q:=b1q
 b1r:=b1r
 opsG_any:=opsG_any
 goC_t:=goC_t
 goC_f:=goC_f
 goC_ct:=goC_ct
 goC_cf:=goC_cf
 c2b:=c2b
 goC_any:=goC_any
 go_regD:=go_regD
 opsD_nil:=opsD_nil
 opsD_ins:=opsD_ins
 opsD_guard:=opsD_guard
 insG_eq:=insG_eq
 aftD_eq:=aftD_eq
 aftD_comp:=aftD_comp
 aftD_up:=aftD_up
 lokD_eq:=lokD_eq
 lokD_comp:=lokD_comp
 lokD_compU:=lokD_compU
 opsDG_tup:=opsDG_tup
 opsDG_tt:=opsDG_tt
 opsDG_ff:=opsDG_ff
 opsDG_tf:=opsDG_tf
 opsDG_ft:=opsDG_ft
 a9b:=a9b
 a9c:=a9c
 opsDG_bool:=opsDG_bool
 go_loop:=go_loop
 go_cut:=go_cut
 go_grp:=go_grp
 go_rngF:=go_rngF
theorem c33 {P:Program} {f:Nat} {fn:Func} {code:Code} {mc:MC} {args:List V} {H:Heap} {Q:V→Heap→Prop} (ns:List a4y) (rids:List Nat) (rs:List RS) (hf:P.funcs[f]?=some fn) (hb:fn.body=some code) (hc:callable P f=true)
  (hnh:mc.nh=true) (hok:mc.ok P fn.ntmps code=true) (hrs:a6s P rs fn.results.toList=true) (hn:Nat.ble args.length fn.ntmps=true) (hg:St.good ⟨a4t 0 args,H⟩=true)
  (h:∀M:a10,factsSt ⟨a4t 0 args,H⟩→M.go ⟨P,H,a2j H ns rids rs Q,fun _ _=>False,a2j H ns rids rs Q⟩ mc [] ⟨a4t 0 args,H⟩):a0o P f args H Q :=
 c4x ns rids rs hf hb hc hnh hok hrs hn hg fun hfa=>h g35 hfa
theorem c6v {P:Program} {f:Nat} {fn:Func} {code:Code} {mc:MC} {args:List V} {H:Heap} {Q:V→Heap→Prop} (rids:List Nat) (rs:List RS) (hf:P.funcs[f]?=some fn) (hb:fn.body=some code) (hc:callable P f=true)
  (hnh:mc.nh=true) (hok:mc.ok P fn.ntmps code=true) (hrs:a6s P rs fn.results.toList=true) (hn:Nat.ble args.length fn.ntmps=true) (hg:St.good ⟨a4t 0 args,H⟩=true)
  (h:∀M:a10,factsSt ⟨a4t 0 args,H⟩→M.go ⟨P,H,d5z rids rs Q,fun _ _=>False,d5z rids rs Q⟩ mc [] ⟨a4t 0 args,H⟩):a0o P f args H Q :=
 c4x [] rids rs hf hb hc hnh hok hrs hn hg fun hfa=>h g35 hfa
end Go.Ab
namespace Go.Ab
open Go.RowKit Go.Sort
variable {P:Program}
theorem c6p {b:Bool}:(V.bool b).cells=[.bool b]:=rfl
theorem d18 {k:IntKind} {n:Int}:(V.int k n).cells=[.int k n]:=rfl
theorem d15 {s:List UInt8}:(V.str s).cells=[.str s]:=rfl
theorem c6i:V.nils.cells=[.nils]:=rfl
theorem c6j:V.nilp.cells=[.nilp]:=rfl
theorem c6k:V.nilm.cells=[.nilm]:=rfl
theorem c6m:V.nilf.cells=[.nilf]:=rfl
theorem c6l:V.nili.cells=[.nili]:=rfl
theorem d19 {cs:List V}:(V.agg cs).cells=cs:=rfl
theorem d5m {xs:List V}:(V.sl xs).cells=[.sl xs]:=rfl
theorem d16 {a b:Nat}:(V.ptr a b).cells=[.ptr a b]:=rfl
theorem c6n {x:V} {b:Nat}:(V.eptr x b).cells=[.eptr x b]:=rfl
theorem d17 {a b c d:Nat}:(V.osl a b c d).cells=[.osl a b c d]:=rfl
theorem c6g {a b c d:Nat}:(V.optr a b c d).cells=[.optr a b c d]:=rfl
theorem c6h {a:Nat}:(V.omap a).cells=[.omap a]:=rfl
theorem c6o {a:Nat}:(V.bptr a).cells=[.bptr a]:=rfl
theorem d5n {f:Fn} {c:List V}:(V.fn f c).cells=[.fn f c]:=rfl
theorem c2o {c:UInt8}:(a0r c).cells=[a0r c]:=rfl
theorem c6a {p:V→Prop} {a:V}:(∀y∈[a],p y)↔p a:=by simp
theorem c2c {p:V→Prop}:(∀y∈([]:List V),p y)↔True:=by simp
theorem d5r {l:List UInt8}:(∀y∈l.map a0r,y.cells.length=1)↔True:=by simp [a0r,V.cells]
theorem e1j {k:IntKind} {l:List Int}:(∀y∈l.map (fun n=>V.int k n),y.cells.length=1)↔True:=by simp [V.cells]
theorem e5v {vals:Array Value} (h:vals.size=1):vals=#[vals.getD 0 undef]:=by
 refine Array.ext (by simpa using h) fun i h1 h2=>?_
 simp at h2;subst h2
 simp [zC,h]
theorem g5i {vals:Array Value} (h:vals.size=2):vals=#[vals.getD 0 undef,vals.getD 1 undef]:=by
 refine Array.ext (by simpa using h) fun i h1 h2=>?_
 simp at h2
 match i,h2 with
 | 0,_=>simp [zC,h]
 | 1,_=>simp [zC,h]
theorem a1y {f:Nat} {args:List V} {H:Heap} (e:Eff) (hc:callable P f=true)
  (h:∀g w (vals:Array Value),a3p P g w H→vals.size=args.length→(∀(i:Nat) (x:V),args[i]?=some x→VR g w (vals.getD i undef) x) →
   Calls P f vals w fun en w'=>∃v g',en=.returned v∧a07 g H w e g' w'∧a15 H g g' ⟨[],H⟩ e∧VR g' w' v e.val):a0o P f args H (fun r H'=>r=e.val∧H'=e.heap H):=by
 refine ⟨hc,fun g w vals hH hl hv=>(h g w vals hH hl hv).mono ?_⟩
 rintro en w' ⟨v,g',rfl,hs,hf,hvr⟩
 have h1:=a3p.step (σ:=⟨[],H⟩) hH hs hf
 have h0:Frm ⟨w,g,H,0,[],[],H,g,w⟩ g w H:=⟨rfl,rfl,rfl,vI _,fun _ _ _=>rfl,fun id o ho hn=>⟨.inr ⟨id,o,ho,hn,rfl⟩,fun _ h=>by cases h⟩,fun _ h=>h.elim id id,fun _ h=>⟨.inl h,fun _ h=>by cases h⟩,fun id _ _=>Gh.agree.refl g id⟩
 refine ⟨v,e.val,e.heap H,g',rfl,⟨rfl,rfl⟩,h1.2.1,hvr,Frm.step (c:=⟨w,g,H,0,[],[],H,g,w⟩) (σ:=⟨[],H⟩) (ds:=[]) ⟨rfl,fun _ _ h=>(by cases h),fun _ _=>rfl⟩ h0 hs hf,fun id hid=>hs.agree id fun o ho=>?_⟩
 have : ∀{l:List (Nat×a0g)} {G:Heap},(id,o)∈l→find id (puts l G)≠none:=by
  intro l
  induction l with
  | nil=>intro G h;cases h
  | cons p r ih =>
   intro G hm
   obtain ⟨n,q⟩:=p
   rw [puts]
   by_cases hr:∃o',(id,o')∈r
   ·obtain ⟨o',ho'⟩:=hr
    have aux:∀{l:List (Nat×a0g)} {G:Heap} {o':a0g},(id,o')∈l→find id (puts l G)≠none:=by
     intro l
     induction l with
     | nil=>intro G o' h;cases h
     | cons p r ih =>
      intro G o' hm
      obtain ⟨n,q⟩:=p
      rw [puts]
      by_cases hr:∃o',(id,o')∈r
      ·obtain ⟨o'',h''⟩:=hr;exact ih h''
      ·rw [a2b fun o h=>hr ⟨o,h⟩,a0y]
       rcases wV.1 hm with hm|hm
       ·cases hm;simp
       ·exact absurd ⟨_,hm⟩ hr
    exact aux ho'
   ·rw [a2b fun o h=>hr ⟨o,h⟩,a0y]
    rcases wV.1 hm with hm|hm
    ·cases hm;simp
    ·exact absurd ⟨_,hm⟩ hr
 exact this ho hid
theorem a07.grown {g:Gh} {H:Heap} {w w':World} (x:V) (dr:List Nat) (hlt:∀b,g.S b→b<w.heap.size) (h1:w'.os=w.os) (h2:w'.tape=w.tape) (h3:w'.output=w.output) (h4:w.heap.size≤w'.heap.size)
  (h5:∀b,b<w.heap.size→(∀id o,id∈dr→find id H=some o→¬g.nil id→g.ρ id≠b)→w'.heap[b]?=w.heap[b]?):a07 g H w ⟨x,dr,[]⟩ g w' :=
 ⟨h1,h2,h3,h4,fun b hb hn=>h5 b hb fun id o hd=>hn id o (by simpa [Eff.ids] using hd),fun _ h=>h,fun b hb=>.inl hb,fun b hb=>xF (hlt b hb) h4,
  fun id _=>Gh.agree.refl _ _,fun _ _ h=>by simp at h,fun _ _ h=>by simp at h,fun _ _ _ _ h=>by simp at h,fun _ _ h=>by simp at h⟩
theorem a15.none {H0:Heap} {g:Gh} {σ:St} (x:V) (dr:List Nat):a15 H0 g g σ ⟨x,dr,[]⟩:=fun _ _ h=>by simp at h
theorem c3c {g:Gh} {w:World} (l:List UInt8) (h:l.length≤9223372036854775807):VR g w (.string ⟨l.toArray⟩) (.str l):=by
 have:=Rd.str (S:=g.S) (w:=w) ⟨l.toArray⟩ (by
  have:(ByteArray.mk l.toArray).size=l.length:=by simp [ByteArray.size]
  rw [this];unfold maxLen;omega)
 exact .rd (by simpa using this)
theorem c6x {f:Nat} {args:List V} {r:V} (hc:callable P f=true)
  (h:∀g w (vals:Array Value),a3p P g w []→vals.size=args.length→(∀(i:Nat) (x:V),args[i]?=some x→VR g w (vals.getD i undef) x) →
   Calls P f vals w fun en w'=>∃v,en=.returned v∧(∀g w',VR g w' v r)∧∃k os,w'=grow (w.drewN k) os):a0o P f args [] (fun r' H'=>r'=r∧H'=[]):=by
 refine a1y ⟨r,[],[]⟩ hc fun g w vals hH hl hv=>(h g w vals hH hl hv).mono ?_
 rintro en w' ⟨v,rfl,hvr,k,os,rfl⟩
 refine ⟨v,g,rfl,a07.grown r [] hH.lt rfl rfl rfl ?_ ?_,a15.none _ _,hvr g _⟩
 ·simp [World.drewN]
 ·intro b hb _
  exact heap_grow_old (w.drewN k) os hb
theorem liesAt_bytes' {e:TypeId} (hc:P.cellsOf e=1) (count off n:Nat) (hn:off+n≤count):liesAt P P.depth e count off e n=true:=by
 have hd:P.depth=(2*(P.types.size+Made.depth)+1)+1:=rfl
 rw [hd]
 simp only [liesAt,wP]
 left
 rw [hd]
 simp only [rowAt,hc,sameLayout]
 simp [Nat.mod_one,hn]
theorem a98 (w:World) (pt it ty e:TypeId) (hp:P.underlying pt=some (.pointer e)) (hc:P.cellsOf e=1) (g o cells:Nat) (hsh:w.shape? g=some (e,cells)) (l:List UInt8) (h0:l≠[]) (hn:o+l.length≤cells)
  (h63:l.length≤9223372036854775807) (hcell:∀j x,l[j]?=some x→w.cell? ((⟨g,o,none⟩:Addr).add j)=some (.int .u8 x.toNat)) :
  (Builtin.unsafeString_ #[pt,it] ty #[.pointer (some ⟨g,o,none⟩),.int .i64 l.length]).run P w=.ok (.string ⟨l.toArray⟩) (w.freeze ⟨g,o,none⟩ l.length):=by
 have hl:l.length≠0:=by simpa using h0
 have hlb:=Lib.run_loadBytes (P:=P) w l ⟨g,o,none⟩ .empty hcell
 have hlies:=liesAt_bytes' (P:=P) hc (cells / P.cellsOf e) o l.length (by rw [hc];simpa using hn)
 have h63':¬(9223372036854775807:Int)<(l.length:Int):=by omega
 have hneg:¬(l.length:Int)<0:=by omega
 have hmax:IntKind.i64.max=9223372036854775807:=rfl
 obtain ⟨x1,x2,x3,body⟩:∃x1 x2 x3,Builtin.unsafeString_ #[pt,it] ty #[.pointer (some ⟨g,o,none⟩),.int .i64 l.length]=(do
   let n ←asInt (.int .i64 l.length)
   if n<0 then x1
   if n > IntKind.i64.max then x2
   if n=0 then pure (.string .empty)
   else if ←variablesAt ⟨g,o,none⟩ (←elemOf pt) n.toNat then do
    let s ←loadBytes ⟨g,o,none⟩ .empty n.toNat
    freeze ⟨g,o,none⟩ n.toNat
    pure (.string s)
   else x3):=⟨_,_,_,rfl⟩
 rw [body]
 simp [asInt,asIntOf,hmax,h63',hneg,hl,variablesAt,hsh,elemOf,run_underlying hp,hlies,hlb]
end Go.Ab
namespace Go.Ab
open Go.RowKit
theorem getD_lt {α:Type} {l:List α} {i:Nat} {d:α} (h:i<l.length):l[i]?=some (l.getD i d):=by simp [h]
theorem c3k {α:Type} [Inhabited α] {k:Nat} {f:α→V} {l:List α} {kk:IntKind} {n:Int} {K L:V→Prop} :
  d21 k (.sl (l.map f)) (.int kk n) K L=((0≤n∧n<l.length)∧(f (l.getD n.toNat default)).cells.length=k∧L (.eptr (f (l.getD n.toNat default)) 0)):=by
 refine propext ⟨fun ⟨h0,y,h1,h2,h3⟩=>?_,fun ⟨⟨h0,h1⟩,h2,h3⟩=>⟨h0,_,?_,h2,h3⟩⟩
 ·rw [xR] at h1
  cases hl:l[n.toNat]? with
  | none=>rw [hl] at h1;cases h1
  | some a =>
   rw [hl] at h1;cases h1
   have hlt:=(zG.1 hl).1
   have e:l.getD n.toNat default=a:=by simp [List.getD,hl]
   rw [e];exact ⟨⟨h0,by omega⟩,h2,h3⟩
 ·rw [xR,getD_lt (by omega)];rfl
theorem d2w {id k k' lo m:Nat} {kk:IntKind} {n:Int} {K L:V→Prop}:d21 k (.osl id k' lo m) (.int kk n) K L=bif Nat.beq k k' then (0≤n∧n<m)∧K (.optr id k (lo+n.toNat) 0) else False:=rfl
theorem d7i {α:Type} [Inhabited α] {f:α→V} {l:List α} {i:Nat} {p:V→Prop}:(∃x,(l.map f)[i]?=some x∧p x)=(i<l.length∧p (f (l.getD i default))):=by
 refine propext ⟨fun ⟨x,h1,h2⟩=>?_,fun ⟨h1,h2⟩=>⟨_,?_,h2⟩⟩
 ·rw [xR] at h1
  cases hl:l[i]? with
  | none=>rw [hl] at h1;cases h1
  | some a =>
   rw [hl] at h1;cases h1
   have e:l.getD i default=a:=by simp [List.getD,hl]
   rw [e];exact ⟨(zG.1 hl).1,h2⟩
 ·rw [xR,getD_lt h1];rfl
theorem d1d {a b:UInt8} (h:a0r a=a0r b):a=b:=by
 simp only [a0r,V.int.injEq,true_and] at h
 exact UInt8.toNat_inj.1 (by omega)
theorem bytes_inj {a b:List UInt8} (h:a.map a0r=b.map a0r):a=b:=List.map_inj_right (fun _ _ h=>d1d h)|>.1 h
theorem b84 {s:List UInt8} {p:List UInt8→Prop}:(∃t:List UInt8,s.map a0r=t.map a0r∧p t)=p s :=
 propext ⟨fun ⟨t,h1,h2⟩=>by rw [bytes_inj h1];exact h2,fun h=>⟨s,rfl,h⟩⟩
theorem c05 {s:List UInt8} {lo n:Nat} {p:List UInt8→Prop}:(∃t:List UInt8,((s.map a0r).drop lo).take n=t.map a0r∧t.length=n∧p t)=(((s.drop lo).take n).length=n∧p ((s.drop lo).take n)):=by
 rw [←List.map_drop,←List.map_take]
 exact propext ⟨fun ⟨t,h1,h2,h3⟩=>by rw [bytes_inj h1];exact ⟨h2,h3⟩,fun ⟨h1,h2⟩=>⟨_,rfl,h1,h2⟩⟩
section
variable {M:a10} {c:Cfg} {d:Option Nat} {r:List MOp} {s:List Fr} {e e0:List (Nat×V)} {h h0:Heap} {anc:List (List Nat)} {u t m:List Nat} {log:List Ent}
theorem a10.iad_map {α:Type} [Inhabited α] {k:Nat} {f:α→V} {l:List α} {kk:IntKind} {n:Int} {K:V→Prop} :
  d21 k (.sl (l.map f)) (.int kk n) K (a0u (M.lok c d r s e h))=((0≤n∧n<l.length)∧(f (l.getD n.toNat default)).cells.length=k∧a0u (M.aft c d r s e h) (.eptr (f (l.getD n.toNat default)) 0)):=by
 rw [c3k,M.lok_comp]
theorem a10.iad_mapD {α:Type} [Inhabited α] {k:Nat} {f:α→V} {l:List α} {kk:IntKind} {n:Int} {K:V→Prop} :
  d21 k (.sl (l.map f)) (.int kk n) K (a0u (M.lokD c anc e0 h0 d u t m r log s e h))=((0≤n∧n<l.length)∧(f (l.getD n.toNat default)).cells.length=k∧a0u (M.aftD c anc e0 h0 d u t m r log s e h) (.eptr (f (l.getD n.toNat default)) 0)):=by
 rw [c3k,M.lokD_comp]
theorem a10.ex_part {α:Type} [Inhabited α] {f:α→V} {l:List α} {i off:Nat} {n:Option Nat} :
  (∃x,(l.map f)[i]?=some x∧part n off x.cells (a0u (M.lok c d r s e h)))=(i<l.length∧part n off (f (l.getD i default)).cells (a0u (M.aft c d r s e h))):=by
 rw [d7i]
 have:a0u (M.lok c d r s e h)=a0u (M.aft c d r s e h):=funext fun v=>M.lok_comp
 rw [this]
theorem a10.ex_partD {α:Type} [Inhabited α] {f:α→V} {l:List α} {i off:Nat} {n:Option Nat} :
  (∃x,(l.map f)[i]?=some x∧part n off x.cells (a0u (M.lokD c anc e0 h0 d u t m r log s e h)))=(i<l.length∧part n off (f (l.getD i default)).cells (a0u (M.aftD c anc e0 h0 d u t m r log s e h))):=by
 rw [d7i]
 have:a0u (M.lokD c anc e0 h0 d u t m r log s e h)=a0u (M.aftD c anc e0 h0 d u t m r log s e h):=funext fun v=>M.lokD_comp
 rw [this]
theorem a10.b2s_sl {b:List UInt8}:(∃t:List UInt8,b.map a0r=t.map a0r∧a0u (M.lok c d r s e h) (.str t))=a0u (M.aft c d r s e h) (.str b):=by rw [b84,M.lok_comp]
theorem a10.b2s_slD {b:List UInt8}:(∃t':List UInt8,b.map a0r=t'.map a0r∧a0u (M.lokD c anc e0 h0 d u t m r log s e h) (.str t'))=a0u (M.aftD c anc e0 h0 d u t m r log s e h) (.str b):=by rw [b84,M.lokD_comp]
theorem a10.b2s_osl {b:List UInt8} {lo n:Nat}:(∃t:List UInt8,((b.map a0r).drop lo).take n=t.map a0r∧t.length=n∧a0u (M.lok c d r s e h) (.str t))=(((b.drop lo).take n).length=n∧a0u (M.aft c d r s e h) (.str ((b.drop lo).take n))):=by rw [c05,M.lok_comp]
theorem a10.b2s_oslD {b:List UInt8} {lo n:Nat}:(∃t':List UInt8,((b.map a0r).drop lo).take n=t'.map a0r∧t'.length=n∧a0u (M.lokD c anc e0 h0 d u t m r log s e h) (.str t'))=(((b.drop lo).take n).length=n∧a0u (M.aftD c anc e0 h0 d u t m r log s e h) (.str ((b.drop lo).take n))):=by rw [c05,M.lokD_comp]
end
theorem g5f {a b:Nat}:Nat.blt a b=Nat.ble (a+1) b:=rfl
theorem d2k {α:Type} {f:α→V} {l:List α} {n:Nat}:(l.map f).take n=(l.take n).map f:=List.map_take.symm
theorem d5f {α:Type} {f:α→V} {l:List α} {n:Nat}:(l.map f).drop n=(l.drop n).map f:=List.map_drop.symm
theorem g0e {α:Type} {l:List α}:l.drop 0=l:=rfl
theorem g0q {P:Program} {n0:Nat} {vs:List V} {ob:Nat→Option a0g} {K L:Eff→Prop} {m:c0u} {xs:List Opd}:o7 P (.mp m xs) n0 vs ob K L=a2k m n0 vs ob K L:=propext vO
section
variable {P:Program} {n0:Nat} {vs:List V} {ob:Nat→Option a0g} {K L:Eff→Prop} {xs:List Opd}
theorem g0j {kd:KD}:a18 P (.mp (.mk kd) xs) n0 vs ob K L=a2k (.mk kd) n0 vs ob K L:=propext vO
theorem f1f {kd:KD} {ok:Bool} {z:V}:a18 P (.mp (.lku kd ok z) xs) n0 vs ob K L=a2k (.lku kd ok z) n0 vs ob K L:=propext vO
theorem g0f {kd:KD}:a18 P (.mp (.up kd) xs) n0 vs ob K L=a2k (.up kd) n0 vs ob K L:=propext vO
theorem f0u {kd:KD}:a18 P (.mp (.ups kd) xs) n0 vs ob K L=a2k (.ups kd) n0 vs ob K L:=propext vO
theorem f1l {ng:Bool}:a18 P (.mp (.fnz ng) xs) n0 vs ob K L=a2k (.fnz ng) n0 vs ob K L:=propext vO
theorem f1h {ng:Bool}:a18 P (.mp (.ifz ng) xs) n0 vs ob K L=a2k (.ifz ng) n0 vs ob K L:=propext vO
theorem f1w {k b:Nat}:a18 P (.mp (.apc k b) xs) n0 vs ob K L=a2k (.apc k b) n0 vs ob K L:=propext vO
theorem f0v {i:Nat}:a18 P (.mp (.tab i) xs) n0 vs ob K L=a2k (.tab i) n0 vs ob K L:=propext vO
theorem f8o:a2k (.tab 1) n0 [] ob K L=K (evl (.agg [.int .i64 1,.int .i64 100,.int .i64 1000,.int .i64 10000])):=propext vO
theorem f8n:a2k (.tab 2) n0 [] ob K L=K (evl (.agg [.int .i64 40,.int .i64 16,.int .i64 4,.int .i64 1])):=propext vO
theorem f1q {kd:KD}:a18 P (.mp (.del kd) xs) n0 vs ob K L=a2k (.del kd) n0 vs ob K L:=propext vO
theorem e2n:a18 P (.mp .len xs) n0 vs ob K L=a2k .len n0 vs ob K L:=propext vO
theorem f0z:a18 P (.mp .rng xs) n0 vs ob K L=a2k .rng n0 vs ob K L:=propext vO
theorem f1p:a18 P (.mp .ent xs) n0 vs ob K L=a2k .ent n0 vs ob K L:=propext vO
end
theorem d4j {n:Nat} {kd:KD} {es:List (V×V)}:(V.smap kd es).has n=false:=by simp only [V.has]
theorem c6f {kd:KD} {es:List (V×V)}:(V.smap kd es).cells=[.smap kd es]:=rfl
theorem c99 {k z:V} {ok:Bool}:a5s ok z none=bif ok then .tup [z,.bool false] else z:=rfl
theorem c98 {k z v:V} {ok:Bool}:a5s ok z (some v)=bif ok then .tup [v,.bool true] else v:=rfl
theorem d3m {k:V}:c3y k []=none:=rfl
theorem a10.opsDG_any {M:a10} {c:Cfg} {anc:List (List Nat)} {e0 e:List (Nat×V)} {h0 h:Heap} {i:a02} {d:Option Nat} {n:Nat} {w b:Bool} {r:List MOp} {log:List Ent} {s:List Fr}:M.opsDG c anc e0 h0 i d n w r log s e h (.bool b) =
  ((b=w→M.insG c anc e0 h0 i d [n] r log s (put n (.bool w) e) h)∧(b=(!w)→M.opsD c anc e0 h0 r (⟨d,none,[n],[],[]⟩::log) s ⟨a7a d (put n (.bool (!w)) e),h⟩)):=by
 rw [M.opsDG_bool];rfl
attribute [go_sem high] f8o f8n
attribute [go_sem] g0q f0u d8o f1l e5t f1h f1w f0v g0j f1f g0f f1q e2n f0z f1p a2k b1v evl eup KD.is d4j c6f c99 c98 d3m V.shm V.shmL c7x c73 a0g.shm
attribute [go_sem] a10.go_regI a10.kN_it_nil a10.kN_it_op a10.kN_it_nt a10.kX_it a10.go_seq a10.go_block a10.go_skip a10.go_ret a10.go_exit a10.go_reg a10.go_regD
attribute [go_sem low] a10.goC_any a10.opsG_any a10.opsDG_any
attribute [go_sem high] a10.goC_t a10.goC_f a10.goC_ct a10.goC_cf a10.opsG_lit_tt a10.opsG_lit_ff a10.opsG_lit_tf a10.opsG_lit_ft a10.opsDG_tt a10.opsDG_ff a10.opsDG_tf a10.opsDG_ft a10.opsG_tup a10.opsDG_tup
attribute [go_sem] a10.kN_it_grp f2o f1e f9x f3a e3o f1x e2r e5o g4v a2n
attribute [go_sem] a10.go_cond a10.kN_nil a10.kN_sq a10.kN_bl a10.kX_nil a10.kX_sq a10.kX_bl' a10.ops_nil a10.ops_guard a10.ops_ins a10.opsD_nil a10.opsD_ins
attribute [go_sem] a10.opsD_guard a10.insG_eq c54 g0h e2m d5k f1r d5j d0z g0k g0g f1d
attribute [go_sem] f1s e2q f1t f1o f1b f1c f1k f0y f1u e2p e2o
attribute [go_sem] f0w f0x f1m f1j f1i f1n f1g f1v g0i a10.aftD_eq a10.aftD_comp
attribute [go_sem] a10.aftD_up slotsOf a02.touch vid a10.aft_eq a10.aft_some
attribute [go_sem] a10.aft_none a10.aft_up a10.aft_upn
attribute [go_sem] g0p e3j g0s g0o f2n f2w e3m f2x f2u f2l f2m f2r
attribute [go_sem] f2y e3l f2i f2j f2s f2q f2p f2t at_len g0r
attribute [go_sem] d5x f2v d1k f2k e3k f2z e3n d5w d50 e1z d0g
attribute [go_sem] d57 d3d d9o d5h e2l d9u e1q e1r d4k d4l d4t e1w e1o
attribute [go_sem] f0e d4u e1s e1p f0d d4m d4n d4o d4q d4p e1v d4r
attribute [go_sem] d4v d06 c6e c2n e0g c9a a7t a1f a0g.has a02.creates a02.opds a5c
attribute [go_sem] List.map List.append List.reverse List.reverseAux Opd.ev Option.getD Option.isSome Option.isNone c57 puts d0x a7a
attribute [go_sem] vN vL Bool.and_true Bool.true_and Bool.and_false Bool.false_and Bool.or_false wZ wY wT d6t c1g
attribute [go_sem] sLd sSt e5j c1i e5n d98 e5h e5i e5l g4t c82 d8s
attribute [go_sem] d6r e5m g4u d2w g0e wS e5k d96 sLen sMm d9a e5g
attribute [go_sem] c1h c3m a5v d8c kEq c74 part c6p d18 d15
attribute [go_sem] c6i c6j c6k c6m c6l d19 d5m d16 c6n d17 c6g c6h c6o
attribute [go_sem] d5n c2o c6a c2c d5r e1j tyJ
attribute [go_sem] sel V.within V.withinL b1j a0g.within w8 vC xV b0g b7y b0h b7z
attribute [go_sem] and_true true_and a0s wH wA wO g5g setCells x5 wK List.take_succ_cons
attribute [go_sem] List.take_zero xD List.all_cons List.all_nil V.one decide_true decide_false wL vI V.nany V.nav a4n V.sealed
attribute [go_sem] V.isB V.sc a10.go_note a0t d26 d23 c8l V.ren V.renL a0g.ren a7r V.sealOK b8v
attribute [go_sem] V.shut b7g a7q a0g.sealOK a0g.shut xZ List.map_append wW vE xI V.sealL V.sealOKs
attribute [go_sem] ints tape V.unnil V.unnilL
attribute [go_sem] b0o List.zip List.zipWith List.set_cons_succ List.set_cons_zero g5f g4s uvT tyF
attribute [go_sem] d2k d5f List.forall_mem_map implies_true Int.toNat_zero
attribute [go_sem ↓] a10.iad_map a10.iad_mapD a10.ex_part a10.ex_partD a10.b2s_sl a10.b2s_slD a10.b2s_osl a10.b2s_oslD
def swN (a b n:Nat):Nat:=bif Nat.beq n a then b else bif Nat.beq n b then a else n
theorem a0p (a b n:Nat):swN a b (swN a b n)=n:=by
 unfold swN
 by_cases h1:n=a
 ·subst h1
  by_cases h2:n=b
  ·subst h2;simp
  ·have:Nat.beq b n=false:=by
    cases h:Nat.beq b n
    ·rfl
    ·exact absurd (zR h).symm h2
   simp [this]
 ·have e1:Nat.beq n a=false:=by
   cases h:Nat.beq n a
   ·rfl
   ·exact absurd (zR h) h1
  by_cases h2:n=b
  ·subst h2;simp [e1]
  ·have e2:Nat.beq n b=false:=by
    cases h:Nat.beq n b
    ·rfl
    ·exact absurd (zR h) h2
   simp [e1,e2]
theorem c7m {a b m n:Nat} (h:swN a b m=swN a b n):m=n:=by
 have:=congrArg (swN a b) h
 rwa [a0p,a0p] at this
mutual
def V.sw (a b:Nat):V→V
 | .ptr id off=>.ptr (swN a b id) off
 | .osl id k lo n=>.osl (swN a b id) k lo n
 | .optr id k i off=>.optr (swN a b id) k i off
 | .omap id=>.omap (swN a b id)
 | .bptr id=>.bptr (swN a b id)
 | .nsl z k xs=>.nsl (swN a b z) k xs
 | .nsmap z k kd es=>.nsmap (swN a b z) k kd es
 | .at_ id x=>.at_ (swN a b id) x
 | .agg cs=>.agg (V.swL a b cs)
 | .tup cs=>.tup (V.swL a b cs)
 | .fn f cs=>.fn f (V.swL a b cs)
 | x=>x
def V.swL (a b:Nat):List V→List V
 | []=>[]
 | x::r=>x.sw a b::V.swL a b r
end
theorem a5w (a b:Nat):∀cs:List V,V.swL a b cs=cs.map (V.sw a b)
 | []=>rfl
 | x::r=>by simp [V.swL,a5w a b r]
mutual
theorem V.sw_sw (a b:Nat):∀x:V,(x.sw a b).sw a b=x
 | .ptr _ _=>by simp [V.sw,a0p]
 | .osl _ _ _ _=>by simp [V.sw,a0p]
 | .optr _ _ _ _=>by simp [V.sw,a0p]
 | .omap _=>by simp [V.sw,a0p]
 | .bptr _=>by simp [V.sw,a0p]
 | .nsl _ _ _=>by simp [V.sw,a0p]
 | .nsmap _ _ _ _=>by simp [V.sw,a0p]
 | .at_ _ _=>by simp [V.sw,a0p]
 | .agg cs=>by simp [V.sw,V.swL_swL a b cs]
 | .tup cs=>by simp [V.sw,V.swL_swL a b cs]
 | .fn _ cs=>by simp [V.sw,V.swL_swL a b cs]
 | .bool _|.int _ _|.str _|.nils|.nilp|.nilm|.nilf|.nili|.ifc _|.sl _|.smap _ _|.eptr _ _|.adr _ _|.any=>by simp [V.sw]
theorem V.swL_swL (a b:Nat):∀cs:List V,V.swL a b (V.swL a b cs)=cs
 | []=>rfl
 | x::r=>by simp [V.swL,V.sw_sw a b x,V.swL_swL a b r]
end
def a0g.sw (a b:Nat):a0g→a0g
 | .cells cs t=>.cells (V.swL a b cs) t
 | .nmap z k kd es=>.nmap (swN a b z) k kd es
 | o=>o
def swH (a b:Nat):Heap→Heap
 | []=>[]
 | (n,o)::r=>(swN a b n,o.sw a b)::swH a b r
theorem a0g.sw_sw (a b:Nat) (o:a0g):(o.sw a b).sw a b=o:=by
 cases o with
 | cells cs t=>simp [a0g.sw,V.swL_swL]
 | arr k xs t=>rfl
 | map kd es=>rfl
 | iter rem cur=>rfl
 | mark=>rfl
 | nmap z k kd es=>simp [a0g.sw,a0p]
theorem b77 (a b:Nat):∀H:Heap,swH a b (swH a b H)=H
 | []=>rfl
 | (n,o)::r=>by simp [swH,a0p,a0g.sw_sw,b77 a b r]
theorem b3s (a b n:Nat):∀H:Heap,find (swN a b n) (swH a b H)=(find n H).map (a0g.sw a b)
 | []=>rfl
 | (m,o)::r=>by
  simp only [swH,find]
  have ih:=b3s a b n r
  cases h:Nat.beq n m with
  | true =>
   have e:=zR h;subst e
   simp
  | false =>
   have:Nat.beq (swN a b n) (swN a b m)=false:=by
    cases h':Nat.beq (swN a b n) (swN a b m) with
    | false=>rfl
    | true =>
     have e:=c7m (zR h');subst e
     simp at h
   simp only [this,vL];exact ih
theorem a6h {a b n:Nat} {H:Heap} {o:a0g} (h:find n (swH a b H)=some o):∃o',find (swN a b n) H=some o'∧o=o'.sw a b:=by
 have:=b3s a b (swN a b n) H
 rw [a0p,h] at this
 cases hf:find (swN a b n) H with
 | none=>rw [hf] at this;cases this
 | some o'=>rw [hf] at this;simp at this;exact ⟨o',rfl,this⟩
def Gh.sw (g:Gh) (a b:Nat):Gh:=⟨g.S,fun i=>g.ρ (swN a b i),fun i=>g.base (swN a b i),fun i=>g.cap (swN a b i),fun i=>g.nil (swN a b i)⟩
theorem Gh.sw_sw (g:Gh) (a b:Nat):(g.sw a b).sw a b=g:=by
 unfold Gh.sw
 simp only [a0p]
variable {P:Program} {g:Gh} {w:World} {a b:Nat}
theorem Rd.sw_same {S:Nat→Prop} {v:Value} {x:V} (h:Rd S w v x):x.sw a b=x:=by
 induction h with
 | agg vs cs hl hr ih =>
  simp only [V.sw,a5w,V.agg.injEq]
  refine xU fun i=>?_
  rw [xR]
  cases hc:cs[i]? with
  | none=>rfl
  | some c=>simp [ih i c hc]
 | _=>rfl
theorem VR.sw {v:Value} {x:V} (h:VR g w v x):VR (g.sw a b) w v (x.sw a b):=by
 induction h with
 | rd h=>rw [h.sw_same];exact .rd h
 | any v=>exact .any v
 | ptr id off =>
  have:=VR.ptr (g:=g.sw a b) (w:=w) (swN a b id) off
  simp only [Gh.sw,a0p] at this
  exact this
 | eptr bl o off cur e fz x hS hg hb hr=>exact .eptr bl o off cur e fz x hS hg hb hr
 | oslnil id k lo h=>exact .oslnil _ k lo (by simp only [Gh.sw,a0p];exact h)
 | osl id k lo len o c h ho hc hl hm =>
  have:=VR.osl (g:=g.sw a b) (w:=w) (swN a b id) k lo len o c (by simp only [Gh.sw,a0p];exact h) (by simp only [Gh.sw,a0p];exact ho) (by simp only [Gh.sw,a0p];exact hc) hl hm
  simp only [Gh.sw,a0p] at this
  exact this
 | optr id k i off =>
  have:=VR.optr (g:=g.sw a b) (w:=w) (swN a b id) k i off
  simp only [Gh.sw,a0p] at this
  exact this
 | omap id =>
  have:=VR.omap (g:=g.sw a b) (w:=w) (swN a b id)
  simp only [Gh.sw,a0p] at this
  exact this
 | bnil id=>exact .bnil _
 | bself id =>
  have:=VR.bself (g:=g.sw a b) (w:=w) (swN a b id)
  simp only [Gh.sw,a0p] at this
  exact this
 | at_ id q v h=>exact VR.at_ (g:=g.sw a b) (w:=w) (swN a b id) q v (by simp only [Gh.sw,a0p];exact h)
 | nsl z k xs v h =>
  have:=VR.nsl (g:=g.sw a b) (w:=w) (swN a b z) k xs v (by simp only [Gh.sw,a0p];exact h)
  exact this
 | nsmap bl z k kd ents clock es hr hS hg hn =>
  exact VR.nsmap (g:=g.sw a b) (w:=w) bl (swN a b z) k kd ents clock es hr hS hg (by simp only [Gh.sw,a0p];exact hn)
 | agg vs cs hl hr ih =>
  simp only [V.sw,a5w]
  refine .agg vs _ (by simpa using hl) fun i c hc=>?_
  rw [xR] at hc
  cases hx:cs[i]? with
  | none=>rw [hx] at hc;cases hc
  | some y=>rw [hx] at hc;cases hc;exact ih i y hx
 | tup vs cs hl hr ih =>
  simp only [V.sw,a5w]
  refine .tup vs _ (by simpa using hl) fun i c hc=>?_
  rw [xR] at hc
  cases hx:cs[i]? with
  | none=>rw [hx] at hc;cases hc
  | some y=>rw [hx] at hc;cases hc;exact ih i y hx
 | fn f vs cs hl hr ih =>
  simp only [V.sw,a5w]
  refine .fn f vs _ (by simpa using hl) fun i c hc=>?_
  rw [xR] at hc
  cases hx:cs[i]? with
  | none=>rw [hx] at hc;cases hc
  | some y=>rw [hx] at hc;cases hc;exact ih i y hx
 | bnd f vs cs hl hr ih =>
  simp only [V.sw,a5w]
  refine .bnd f vs _ (by simpa using hl) fun i c hc=>?_
  rw [xR] at hc
  cases hx:cs[i]? with
  | none=>rw [hx] at hc;cases hc
  | some y=>rw [hx] at hc;cases hc;exact ih i y hx
theorem OR.sw {id:Nat} {o:a0g} (h:OR g w id o):OR (g.sw a b) w (swN a b id) (o.sw a b):=by
 cases o with
 | cells cs t =>
  obtain ⟨hn,cur,e,fz,h1,h2,h3,h4⟩:=h
  refine ⟨by simp only [Gh.sw,a0p];exact hn,cur,e,fz,by simp only [Gh.sw,a0p];exact h1,by rw [a5w];simpa using h2,h3,fun i c hc=>?_⟩
  rw [a5w,xR] at hc
  cases hx:cs[i]? with
  | none=>rw [hx] at hc;cases hc
  | some y=>rw [hx] at hc;cases hc;exact (h4 i y hx).sw
 | arr k xs t =>
  simp only [OR,Gh.sw,a0g.sw,a0p];exact h
 | map kd es =>
  simp only [OR,Gh.sw,a0g.sw,a0p];exact h
 | iter rem cur =>
  simp only [OR,Gh.sw,a0g.sw,a0p];exact h
 | mark =>
  simp only [OR,Gh.sw,a0g.sw,a0p];exact h
 | nmap z k kd es =>
  simp only [OR,Gh.sw,a0g.sw,a0p];exact h
theorem a3p.sw {H:Heap} (h:a3p P g w H):a3p P (g.sw a b) w (swH a b H):=by
 refine ⟨fun id o ho=>?_,fun i j o o' hi hj hni hnj he=>?_,fun id o ho hn=>?_,h.lt,h.tabs⟩
 ·obtain ⟨o',h1,rfl⟩:=a6h ho
  have:=(h.obj _ _ h1).sw (a:=a) (b:=b)
  rwa [a0p] at this
 ·obtain ⟨o1,h1,_⟩:=a6h hi
  obtain ⟨o2,h2,_⟩:=a6h hj
  exact c7m (h.inj _ _ _ _ h1 h2 hni hnj he)
 ·obtain ⟨o1,h1,_⟩:=a6h ho
  exact h.sep _ _ h1 hn
theorem Gh.agree.sw {g g':Gh} {id:Nat} (h:g.agree g' (swN a b id)):(g.sw a b).agree (g'.sw a b) id:=h
theorem Frm.sw {w0:World} {g0:Gh} {H0 H:Heap} (h:Frm ⟨w0,g0,H0,0,[],[],H0,g0,w0⟩ g w H):Frm ⟨w0,g0.sw a b,swH a b H0,0,[],[],swH a b H0,g0.sw a b,w0⟩ (g.sw a b) w (swH a b H):=by
 have hM:∀bl,Ctx.M ⟨w0,g0,H0,0,[],[],H0,g0,w0⟩ bl→Ctx.M ⟨w0,g0.sw a b,swH a b H0,0,[],[],swH a b H0,g0.sw a b,w0⟩ bl:=by
  rintro bl ⟨id,o,h1,h2,h3⟩
  refine ⟨swN a b id,o.sw a b,?_,?_,?_⟩
  ·show find _ (swH a b H0)=_;rw [b3s,h1];rfl
  ·simp only [Gh.sw,a0p];exact h2
  ·simp only [Gh.sw,a0p];exact h3
 refine ⟨h.os,h.tape,h.output,h.size,fun bl hb hn=>h.old bl hb fun hm=>hn (hM bl hm),fun id o ho hn=>?_,h.sup,fun bl hb=>?_,fun id o ho=>?_⟩
 ·obtain ⟨o1,h1,_⟩:=a6h ho
  rcases (h.own _ _ h1 hn).1 with h2|h2
  ·exact ⟨.inl h2,fun _ h=>by cases h⟩
  ·exact ⟨.inr (hM _ h2),fun _ h=>by cases h⟩
 ·rcases (h.sub bl hb).1 with h1|h1|h1
  ·exact ⟨.inl h1,fun _ h=>by cases h⟩
  ·exact ⟨.inr (.inl h1),fun _ h=>by cases h⟩
  ·exact ⟨.inr (.inr (hM bl h1)),fun _ h=>by cases h⟩
 ·obtain ⟨o1,h1,_⟩:=a6h ho
  exact (h.par _ _ h1).sw
theorem d65 {f:Nat} {args:List V} {H:Heap} {Q:V→Heap→Prop} (a b:Nat) (h:a0o P f args H Q):a0o P f (V.swL a b args) (swH a b H) (fun r H'=>Q (r.sw a b) (swH a b H')):=by
 refine ⟨h.1,fun g w vals hH hl hv=>?_⟩
 have h1:=hH.sw (a:=a) (b:=b)
 rw [b77] at h1
 refine (h.2 (g.sw a b) w vals h1 (by rw [hl,a5w];simp) fun i x hx=>?_).mono ?_
 ·have:=(hv i (x.sw a b) (by rw [a5w,xR,hx];rfl)).sw (a:=a) (b:=b)
  rwa [V.sw_sw] at this
 ·rintro en w' ⟨v,r,H',g',rfl,hq,hH',hv',hf,ha⟩
  refine ⟨v,r.sw a b,swH a b H',g'.sw a b,rfl,by simp only [V.sw_sw,b77];exact hq,hH'.sw,hv'.sw,?_,fun id hid=>?_⟩
  ·have:=hf.sw (a:=a) (b:=b)
   rwa [Gh.sw_sw] at this
  ·have h2:find (swN a b id) H'=none:=by
    have:=b3s a b (swN a b id) H'
    rw [a0p,hid] at this
    cases hf:find (swN a b id) H' with
    | none=>rfl
    | some o=>rw [hf] at this;cases this
   have:=(ha _ h2).sw (a:=a) (b:=b) (id:=id)
   rwa [Gh.sw_sw] at this
theorem o9 {f:Nat} {args:List V} {H:Heap} {r0:V} {H1:Heap} (a b:Nat) (h:a0o P f args H (fun r H'=>r=r0∧H'=H1)):a0o P f (V.swL a b args) (swH a b H) (fun r H'=>r=r0.sw a b∧H'=swH a b H1):=by
 refine (d65 a b h).mono fun r H' ⟨h1,h2⟩=>?_
 exact ⟨by rw [←h1,V.sw_sw],by rw [←h2,b77]⟩
end Go.Ab
namespace Go.Ab
open Go.RowKit
noncomputable section
abbrev Str:=List UInt8
def Ok {α:Type} (o:Option α) (Q:α→Prop):Prop:=∃y,o=some y∧Q y
theorem b2d {α:Type} {x:α} {Q:α→Prop}:Ok (some x) Q=Q x:=propext ⟨fun ⟨_,e,h⟩=>by cases e;exact h,fun h=>⟨x,rfl,h⟩⟩
theorem b8i {α:Type} {Q:α→Prop}:Ok none Q=False:=by simp [Ok]
theorem a9m {α β:Type} {o:Option α} {f:α→Option β} {Q:β→Prop}:Ok (o.bind f) Q=∃y,o=some y∧Ok (f y) Q:=propext
 ⟨fun ⟨z,e,h⟩=>by
  cases o with
  | none=>cases e
  | some y=>exact ⟨y,rfl,z,e,h⟩,fun ⟨y,e,z,e',h⟩=>⟨z,by rw [e];exact e',h⟩⟩
theorem d7t {α:Type} {b:Bool} {x y:Option α} {Q:α→Prop}:Ok (bif b then x else y) Q=((b=true→Ok x Q)∧(b=false→Ok y Q)):=by
 cases b<;>simp
def chk {α:Type} (b:Bool) (o:Option α):Option α:=bif b then o else none
theorem d7u {α:Type} {b:Bool} {o:Option α} {Q:α→Prop}:Ok (chk b o) Q=(b=true∧Ok o Q):=by
 cases b<;>simp [chk,b8i]
theorem o5 {α:Type} {b:Bool} {o:Option α} (h:b=true):chk b o=o:=by rw [h];rfl
def jn {α β:Type} (o:Option α) (f:α→Option β):Option β:=o.bind f
theorem e1i {α β:Type} {o:Option α} {f:α→Option β}:jn o f=o.bind f:=rfl
def grp {α β:Type} (x:α) (f:α→Option β):Option β:=f x
theorem f0g {α β:Type} {x:α} {f:α→Option β}:grp x f=f x:=rfl
def a0j (n:Int):Bool:=decide (-9223372036854775808≤n)&&decide (n≤9223372036854775807)
theorem x8 {n:Int}:a0j n=true↔-9223372036854775808≤n∧n≤9223372036854775807:=by simp [a0j]
theorem f9y {n:Int}:rng .i64 n=(a0j n=true):=propext (by simp [rng,a0j])
def inb (i:Int) (n:Nat):Bool:=decide (0≤i)&&decide (i<n)
theorem p8 {i:Int} {n:Nat}:inb i n=true↔0≤i∧i<n:=by simp [inb]
theorem a1v {i:Int} {n:Nat} (h:inb i n=true):i.toNat<n:=by have:=p8.1 h;omega
def inc (a b:Int) (n:Nat):Bool:=decide (0≤a)&&(decide (a≤b)&&decide (b≤n))
theorem a1u {a b:Int} {n:Nat}:inc a b n=true↔0≤a∧a≤b∧b≤n:=by simp [inc]
def room (n bytes:Nat):Bool:=decide (n*bytes≤140737488355328)
theorem a0z {n b:Nat}:room n b=true↔n*b≤140737488355328:=by simp [room]
def b5l (n m:Int) (b:Nat):Bool:=decide (0≤n)&&(decide (n≤m)&&decide (m*b≤140737488355328))
theorem a6b {n m:Int} {b:Nat}:b5l n m b=true↔0≤n∧n≤m∧m*b≤140737488355328:=by simp [b5l]
inductive Fl (σ ρ:Type) where
 | nx (s:σ)
 | ex (r:ρ)
def Fl.elim {σ ρ γ:Type} (f:σ→γ) (g:ρ→γ):Fl σ ρ→γ
 | .nx s=>f s
 | .ex r=>g r
theorem a5m {σ ρ γ:Type} {f:σ→γ} {g:ρ→γ} {s:σ}:Fl.elim f g (.nx s)=f s:=rfl
theorem a5y {σ ρ γ:Type} {f:σ→γ} {g:ρ→γ} {r:ρ}:Fl.elim f g (.ex r)=g r:=rfl
def forL {α σ ρ:Type} (body:Int→α→σ→Option (Fl σ ρ)):List α→Int→σ→Option (Fl σ ρ)
 | [],_,s=>some (.nx s)
 | x::r,i,s=>(body i x s).bind fun o=>o.elim (fun s'=>forL body r (i+1) s') fun e=>some (.ex e)
def foldL {α σ:Type} (body:Int→α→σ→Option σ):List α→Int→σ→Option σ
 | [],_,s=>some s
 | x::r,i,s=>(body i x s).bind fun s'=>foldL body r (i+1) s'
def iter {σ ρ:Type} (step:σ→Option (Fl σ ρ)):Nat→σ→Option ρ
 | 0,_=>none
 | n+1,s=>(step s).bind fun o=>o.elim (iter step n) some
theorem b4r {σ ρ:Type} {step:σ→Option (Fl σ ρ)}:∀{n m:Nat} {s:σ} {r:ρ},n≤m→iter step n s=some r→iter step m s=some r
 | 0,_,_,_,_,h=>by cases h
 | n+1,0,_,_,hle,_=>by omega
 | n+1,m+1,s,r,hle,h=>by
  simp only [iter] at h ⊢
  cases hs:step s with
  | none=>rw [hs] at h;cases h
  | some o =>
   rw [hs] at h
   cases o with
   | nx s'=>exact b4r (n:=n) (m:=m) (by omega) h
   | ex r'=>exact h
open Classical in
def loop {σ ρ:Type} (step:σ→Option (Fl σ ρ)) (s:σ):Option ρ:=if h:∃n r,iter step n s=some r then iter step h.choose s else none
theorem a3s {σ ρ:Type} {step:σ→Option (Fl σ ρ)} {s:σ} {r:ρ}:loop step s=some r↔∃n,iter step n s=some r:=by
 unfold loop
 constructor
 ·intro h
  split at h
  ·exact ⟨_,h⟩
  ·cases h
 ·rintro ⟨n,h⟩
  have hx:∃n r,iter step n s=some r:=⟨n,r,h⟩
  rw [dif_pos hx]
  obtain ⟨r',h'⟩:=hx.choose_spec
  have a:=b4r (Nat.le_max_left hx.choose n) h'
  have b:=b4r (Nat.le_max_right hx.choose n) h
  rw [a] at b;rw [h',b]
theorem a1t {σ ρ:Type} {step:σ→Option (Fl σ ρ)} {s:σ}:loop step s=(step s).bind fun o=>o.elim (loop step) some:=by
 apply Option.ext
 intro r
 rw [a3s]
 constructor
 ·rintro ⟨n,h⟩
  cases n with
  | zero=>cases h
  | succ n =>
   simp only [iter] at h
   cases hs:step s with
   | none=>rw [hs] at h;cases h
   | some o =>
    rw [hs] at h
    cases o with
    | nx s'=>exact a3s.2 ⟨n,h⟩
    | ex r'=>exact h
 ·intro h
  cases hs:step s with
  | none=>rw [hs] at h;cases h
  | some o =>
   rw [hs] at h
   cases o with
   | nx s' =>
    obtain ⟨n,hn⟩:=a3s.1 h
    exact ⟨n+1,by simp only [iter,hs];exact hn⟩
   | ex r'=>exact ⟨1,by simp only [iter,hs];exact h⟩
def EvS {α:Type} (f:Nat→Option α) (r:α):Prop:=∃n,∀m,n≤m→f m=some r
open Classical in
def lim {α:Type} (f:Nat→Option α):Option α:=if h:∃r,EvS f r then some h.choose else none
theorem d75 {α:Type} {f:Nat→Option α} {r:α} (h:EvS f r):lim f=some r:=by
 have hx:∃r,EvS f r:=⟨r,h⟩
 unfold lim
 rw [dif_pos hx]
 obtain ⟨n,hn⟩:=h
 obtain ⟨m,hm⟩:=hx.choose_spec
 have a:=hn (max n m) (Nat.le_max_left _ _)
 have b:=hm (max n m) (Nat.le_max_right _ _)
 rw [a] at b;exact b.symm
theorem c9q {α:Type} {f:Nat→Option α} {r:α} (h:lim f=some r):∃n,f n=some r:=by
 unfold lim at h
 split at h
 ·rename_i hx
  cases h
  obtain ⟨n,hn⟩:=hx.choose_spec
  exact ⟨n,hn n (vI _)⟩
 ·cases h
open Classical in
def c1r {α γ:Type} (f:List α→Option γ) (es:List α):Option γ:=if h:∃r,∀l,l.Perm es→f l=some r then some h.choose else none
theorem b7m {α γ:Type} {f:List α→Option γ} {es:List α} {r:γ} (h:∀l,l.Perm es→f l=some r):c1r f es=some r:=by
 have hx:∃r,∀l,l.Perm es→f l=some r:=⟨r,h⟩
 unfold c1r
 rw [dif_pos hx]
 have:=hx.choose_spec es (List.Perm.refl _)
 rw [h es (List.Perm.refl _)] at this;exact this.symm
theorem c8u {α γ:Type} {f:List α→Option γ} {es:List α} {r:γ} (h:c1r f es=some r):∀l,l.Perm es→f l=some r:=by
 unfold c1r at h
 split at h
 ·rename_i hx;cases h;exact hx.choose_spec
 ·cases h
section
variable {M:a10} {c:Cfg} {e:List (Nat×V)} {h:Heap} {s:List Fr}
theorem a10.go_jn {α β:Type} {a b:MC} {A:Option α} {B:α→Option β} {Q:β→Prop} (I:α→St) (ns:List a4y) (hF:Ok (jn A B) Q)
  (h1:∀(Qn:α→Prop) (K:St→Prop),(∀σ',(a0m c.H0 ns σ' fun σ'=>∃y,Qn y∧a0v (I y) σ')→K σ')→Ok A Qn→M.go ⟨c.P,c.H0,K,M.kX c s,c.R⟩ a [] ⟨e,h⟩)
  (h2:∀y,Ok (B y) Q→factsSt (I y)→M.go c b s (I y)):M.go c (.cut a b) s ⟨e,h⟩:=by
 rw [e1i,a9m] at hF
 obtain ⟨y0,e0,h0⟩:=hF
 exact M.go_cut I (fun y=>Ok (B y) Q) ns (h1 _ _ (fun σ' h=>Lk.mk h) ⟨y0,e0,h0⟩) h2
theorem a10.go_gr {α:Type} {ms:List MOp} {its:List It} {A:Option α} {β:Type} {B:α→Option β} {Q:β→Prop} (I:α→St) (hF:Ok (jn A B) Q)
  (h1:∀(Qn:α→Prop) (K:St→Prop),(∀σ',(∃y,Qn y∧a0v (I y) σ')→K σ')→Ok A Qn→M.ops ⟨c.P,c.H0,K,fun _ _=>False,fun _=>False⟩ ms [] ⟨e,h⟩)
  (h2:∀y,Ok (B y) Q→factsSt (I y)→M.kN c (.it its::s) (I y)):M.grpC c ms its s ⟨e,h⟩:=by
 rw [e1i,a9m] at hF
 obtain ⟨y0,e0,h0⟩:=hF
 exact M.go_grp I (fun y=>Ok (B y) Q) (h1 _ _ (fun σ' h=>Lk.mk h) ⟨y0,e0,h0⟩) h2
theorem a10.go_gv {α:Type} {ms:List MOp} {its:List It} {x:α} {β:Type} {B:α→Option β} {Q:β→Prop} (I:α→St) (hF:Ok (grp x B) Q)
  (h1:∀(K:St→Prop),(∀σ',a0v (I x) σ'→K σ')→M.ops ⟨c.P,c.H0,K,fun _ _=>False,fun _=>False⟩ ms [] ⟨e,h⟩)
  (h2:Ok (B x) Q→M.kN c (.it its::s) (I x)):M.grpC c ms its s ⟨e,h⟩:=by
 rw [f0g] at hF
 exact M.go_grp (fun _:Unit=>I x) (fun _=>True) (h1 _ fun σ' h=>Lk.mk ⟨(),trivial,h⟩) fun _ _ hf=>h2 hF
theorem a10.go_while {σ ρ:Type} {b:MC} {step:σ→Option (Fl σ ρ)} {s0:σ} {Q:ρ→Prop} (I:σ→St) (ns:List a4y) (hF:Ok (loop step s0) Q)
  (h0:a0m c.H0 ns ⟨e,h⟩ fun σ'=>a0v (I s0) σ')
  (round:∀(x:σ) (Qn:σ→Prop) (K:St→Prop),(∀σ',(a0m c.H0 ns σ' fun σ'=>∃y,Qn y∧a0v (I y) σ')→K σ')→Ok (step x) (Fl.elim Qn Q)→factsSt (I x)→M.go ⟨c.P,c.H0,K,M.kX c s,c.R⟩ b [] (I x)):M.go c (.loop b) s ⟨e,h⟩:=by
 obtain ⟨r,hr,hQ⟩:=hF
 obtain ⟨n,hn⟩:=a3s.1 hr
 refine M.go_loop (fun x:Nat×σ=>I x.2) (fun x=>Ok (iter step x.1 x.2) Q) (fun x=>x.1) ns (a1p (fun σ' h=>⟨(n,s0),⟨r,hn,hQ⟩,h⟩) h0) fun x hx hf=>?_
 obtain ⟨m,x⟩:=x
 obtain ⟨r',hr',hQ'⟩:=hx
 cases m with
 | zero=>cases hr'
 | succ m =>
  refine round x (fun y=>Ok (iter step m y) Q) _ (fun σ' h=>Lk.mk (a1p (fun σ'' ⟨y,h1,h2⟩=>⟨(m,y),h1,Nat.lt_succ_self m,h2⟩) h)) ?_ hf
  simp only [iter] at hr'
  cases hs:step x with
  | none=>rw [hs] at hr';cases hr'
  | some o =>
   rw [hs] at hr'
   refine ⟨o,rfl,?_⟩
   cases o with
   | nx y=>exact ⟨r',hr',hQ'⟩
   | ex r2=>cases hr';exact hQ'
theorem b54 {α:Type} [Inhabited α] {xs:List α} {k:Nat} (h:k<xs.length):xs.drop k=xs.getD k default::xs.drop (k+1):=by
 rw [List.drop_eq_getElem_cons h];simp [h]
theorem a10.go_for {α σ ρ:Type} [Inhabited α] {b:MC} {body:Int→α→σ→Option (Fl σ ρ)} {xs:List α} {s0:σ} {Q:Fl σ ρ→Prop} (I:Nat→σ→St) (ns:List a4y) (hF:Ok (forL body xs 0 s0) Q)
  (h0:a0m c.H0 ns ⟨e,h⟩ fun σ'=>a0v (I 0 s0) σ')
  (round:∀(k:Nat) (a:α) (x:σ) (Qn:σ→Prop) (K:St→Prop),(∀σ',(a0m c.H0 ns σ' fun σ'=>∃y,Qn y∧a0v (I (k+1) y) σ')→K σ')→k<xs.length→xs.getD k default=a→Ok (body k a x) (Fl.elim Qn fun r=>Q (.ex r))→factsSt (I k x) →
   M.go ⟨c.P,c.H0,K,M.kX c s,c.R⟩ b [] (I k x))
  (stop:∀(k:Nat) (x:σ) (K:St→Prop),k=xs.length→Q (.nx x)→factsSt (I k x)→M.go ⟨c.P,c.H0,K,M.kX c s,c.R⟩ b [] (I k x)):M.go c (.loop b) s ⟨e,h⟩:=by
 refine M.go_loop (fun x:Nat×σ=>I x.1 x.2) (fun x=>x.1≤xs.length∧Ok (forL body (xs.drop x.1) x.1 x.2) Q) (fun x=>xs.length - x.1) ns (a1p (fun σ' h=>⟨(0,s0),⟨vG _,hF⟩,h⟩) h0) fun x hx hf=>?_
 obtain ⟨k,x⟩:=x
 obtain ⟨hk,hx⟩:=hx
 simp only at hk hx hf
 rcases Nat.lt_or_ge k xs.length with hlt|hge
 ·refine round k _ x (fun y=>Ok (forL body (xs.drop (k+1)) (k+1:Nat) y) Q) _ (fun σ' h=>Lk.mk (a1p (fun σ'' ⟨y,h1,h2⟩=>⟨(k+1,y),⟨hlt,h1⟩,by show xs.length - (k+1)<xs.length - k;omega,h2⟩) h)) hlt rfl ?_ hf
  rw [b54 hlt] at hx
  simp only [forL,a9m] at hx
  obtain ⟨o,ho,hx⟩:=hx
  refine ⟨o,ho,?_⟩
  cases o with
  | nx y=>exact hx
  | ex r=>simpa only [Fl.elim,b2d] using hx
 ·have e1:k=xs.length:=by omega
  subst e1
  rw [List.drop_length] at hx
  simp only [forL,b2d] at hx
  exact stop _ x _ rfl hx hf
theorem a10.go_fold {α σ:Type} [Inhabited α] {b:MC} {body:Int→α→σ→Option σ} {xs:List α} {s0:σ} {Q:σ→Prop} (I:Nat→σ→St) (ns:List a4y) (hF:Ok (foldL body xs 0 s0) Q)
  (h0:a0m c.H0 ns ⟨e,h⟩ fun σ'=>a0v (I 0 s0) σ')
  (round:∀(k:Nat) (a:α) (x:σ) (Qn:σ→Prop) (K:St→Prop),(∀σ',(a0m c.H0 ns σ' fun σ'=>∃y,Qn y∧a0v (I (k+1) y) σ')→K σ')→k<xs.length→xs.getD k default=a→Ok (body k a x) Qn→factsSt (I k x) →
   M.go ⟨c.P,c.H0,K,M.kX c s,c.R⟩ b [] (I k x))
  (stop:∀(k:Nat) (x:σ) (K:St→Prop),k=xs.length→Q x→factsSt (I k x)→M.go ⟨c.P,c.H0,K,M.kX c s,c.R⟩ b [] (I k x)):M.go c (.loop b) s ⟨e,h⟩:=by
 refine M.go_loop (fun x:Nat×σ=>I x.1 x.2) (fun x=>x.1≤xs.length∧Ok (foldL body (xs.drop x.1) x.1 x.2) Q) (fun x=>xs.length - x.1) ns (a1p (fun σ' h=>⟨(0,s0),⟨vG _,hF⟩,h⟩) h0) fun x hx hf=>?_
 obtain ⟨k,x⟩:=x
 obtain ⟨hk,hx⟩:=hx
 simp only at hk hx hf
 rcases Nat.lt_or_ge k xs.length with hlt|hge
 ·refine round k _ x (fun y=>Ok (foldL body (xs.drop (k+1)) (k+1:Nat) y) Q) _ (fun σ' h=>Lk.mk (a1p (fun σ'' ⟨y,h1,h2⟩=>⟨(k+1,y),⟨hlt,h1⟩,by show xs.length - (k+1)<xs.length - k;omega,h2⟩) h)) hlt rfl ?_ hf
  rw [b54 hlt] at hx
  simp only [foldL,a9m] at hx
  obtain ⟨o,ho,hx⟩:=hx
  exact ⟨o,ho,hx⟩
 ·have e1:k=xs.length:=by omega
  subst e1
  rw [List.drop_length] at hx
  simp only [foldL,b2d] at hx
  exact stop _ x _ rfl hx hf
end
def ovE:List (Nat×V)→List (Nat×V)→List (Nat×V)
 | [],e=>e
 | (n,x)::r,e=>ovE r (put n x e)
def d59 (keep:List Nat):Heap→Heap
 | []=>[]
 | (n,x)::r=>bif mem n keep then (n,x)::d59 keep r else d59 keep r
inductive Up where
 | o (id:Nat) (o:a0g)
 | p (id off:Nat) (cs:List V)
def g2l (off:Nat) (cs:List V):a0g→a0g
 | .cells ds t=>.cells (setCells ds off cs) t
 | o=>o
def ovU:List Up→Heap→Heap
 | [],h=>h
 | .o id o::r,h=>ovU r (put id o h)
 | .p id off cs::r,h=>ovU r (match find id h with|some o=>put id (g2l off cs o) h|none=>h)
def ovS (e:List (Nat×V)) (h:Heap) (ke kh:List Nat) (ue:List (Nat×V)) (uh:List Up):St:=⟨ovE ue (d26 ke e),ovU uh (d59 kh h)⟩
theorem a0q {n:Nat} {x:V}:∀{e:List (Nat×V)},c4n e→find n e=some x→x.fact
 | (m,y)::r,h,hf=>by
  simp only [find] at hf
  cases hb:Nat.beq n m with
  | true=>rw [hb] at hf;cases hf;exact h.1
  | false=>rw [hb] at hf;exact a0q h.2 hf
theorem e2g {α:Type} {f:α→V} {xs:List α} (h:(V.sl (xs.map f)).fact):xs.length≤9223372036854775807:=by simpa using h.1
section
variable {M:a10} {c:Cfg} {e:List (Nat×V)} {h:Heap} {s:List Fr}
theorem a10.jn1 {α β:Type} {a b:MC} {A:Option α} {B:α→Option β} {Q:β→Prop} (ke kh:List Nat) (ue:α→List (Nat×V)) (uh:α→List Up) (ns:List a4y) (hF:Ok (jn A B) Q)
  (h1:∀(Qn:α→Prop) (K:St→Prop),(∀σ',(a0m c.H0 ns σ' fun σ'=>∃y,Qn y∧a0v (ovS e h ke kh (ue y) (uh y)) σ')→K σ')→Ok A Qn→M.go ⟨c.P,c.H0,K,M.kX c s,c.R⟩ a [] ⟨e,h⟩)
  (h2:∀y,Ok (B y) Q→M.go c b s (ovS e h ke kh (ue y) (uh y))):M.go c (.cut a b) s ⟨e,h⟩ :=
 M.go_jn (fun y=>ovS e h ke kh (ue y) (uh y)) ns hF h1 fun y hy _=>h2 y hy
theorem a10.jnE {α β ρ:Type} {a b:MC} {A:Option (Fl α ρ)} {B:α→Option β} {E:ρ→Option β} {Q:β→Prop} (ke kh:List Nat) (ue:α→List (Nat×V)) (uh:α→List Up) (ns:List a4y) (hF:Ok (jn A fun o=>o.elim B E) Q)
  (h1:∀(Qn:α→Prop) (K:St→Prop),(∀σ',(a0m c.H0 ns σ' fun σ'=>∃y,Qn y∧a0v (ovS e h ke kh (ue y) (uh y)) σ')→K σ')→Ok A (Fl.elim Qn fun r=>Ok (E r) Q)→M.go ⟨c.P,c.H0,K,M.kX c s,c.R⟩ a [] ⟨e,h⟩)
  (h2:∀y,Ok (B y) Q→M.go c b s (ovS e h ke kh (ue y) (uh y))):M.go c (.cut a b) s ⟨e,h⟩:=by
 rw [e1i,a9m] at hF
 obtain ⟨y0,e0,h0⟩:=hF
 refine M.go_cut (fun y=>ovS e h ke kh (ue y) (uh y)) (fun y=>Ok (B y) Q) ns (h1 (fun y=>Ok (B y) Q) _ (fun σ' h=>Lk.mk h) ⟨y0,e0,?_⟩) fun y hy _=>h2 y hy
 cases y0 with
 | nx x=>exact h0
 | ex r=>exact h0
theorem a10.gj1 {α β:Type} {ms:List MOp} {its:List It} {A:Option α} {B:α→Option β} {Q:β→Prop} (ke kh:List Nat) (ue:α→List (Nat×V)) (uh:α→List Up) (hF:Ok (jn A B) Q)
  (h1:∀(Qn:α→Prop) (K:St→Prop),(∀σ',(∃y,Qn y∧a0v (ovS e h ke kh (ue y) (uh y)) σ')→K σ')→Ok A Qn→M.ops ⟨c.P,c.H0,K,fun _ _=>False,fun _=>False⟩ ms [] ⟨e,h⟩)
  (h2:∀y,Ok (B y) Q→M.kN c (.it its::s) (ovS e h ke kh (ue y) (uh y))):M.grpC c ms its s ⟨e,h⟩ :=
 M.go_gr (fun y=>ovS e h ke kh (ue y) (uh y)) hF h1 fun y hy _=>h2 y hy
def c08 (ds:List Nat):List (Nat×V)→List (Nat×V)
 | []=>[]
 | (n,x)::r=>bif mem n ds then c08 ds r else (n,x)::c08 ds r
theorem a10.gv1 {ms:List MOp} {its:List It} {x:Bool} {β:Type} {B:Bool→Option β} {Q:β→Prop} (d:Nat) (ds:List Nat) (hF:Ok (grp x B) Q)
  (h1:∀(K:St→Prop),(∀σ',a0v ⟨put d (.bool x) (c08 ds e),h⟩ σ'→K σ')→M.ops ⟨c.P,c.H0,K,fun _ _=>False,fun _=>False⟩ ms [] ⟨e,h⟩)
  (h2:∀b,Ok (B b) Q→M.kN c (.it its::s) ⟨put d (.bool b) (c08 ds e),h⟩):M.grpC c ms its s ⟨e,h⟩ :=
 M.go_gv (fun b=>⟨put d (.bool b) (c08 ds e),h⟩) hF h1 (h2 x)
theorem a10.wh1 {σ ρ:Type} {b:MC} {step:σ→Option (Fl σ ρ)} {s0:σ} {Q:ρ→Prop} (ke kh:List Nat) (ue:σ→List (Nat×V)) (uh:σ→List Up) (ns:List a4y) (hF:Ok (loop step s0) Q)
  (h0:a0m c.H0 ns ⟨e,h⟩ fun σ'=>a0v (ovS e h ke kh (ue s0) (uh s0)) σ')
  (round:∀(x:σ) (Qn:σ→Prop) (K:St→Prop),(∀σ',(a0m c.H0 ns σ' fun σ'=>∃y,Qn y∧a0v (ovS e h ke kh (ue y) (uh y)) σ')→K σ')→Ok (step x) (Fl.elim Qn Q)→M.go ⟨c.P,c.H0,K,M.kX c s,c.R⟩ b [] (ovS e h ke kh (ue x) (uh x))) :
  M.go c (.loop b) s ⟨e,h⟩ :=
 M.go_while (fun x=>ovS e h ke kh (ue x) (uh x)) ns hF h0 fun x Qn K h1 h2 _=>round x Qn K h1 h2
theorem a10.for1 {α σ ρ:Type} [Inhabited α] {b:MC} {body:Int→α→σ→Option (Fl σ ρ)} {xs:List α} {s0:σ} {Q:Fl σ ρ→Prop} (isl:Nat) (ke kh:List Nat) (ue:σ→List (Nat×V)) (uh:σ→List Up) (ns:List a4y) (hF:Ok (forL body xs 0 s0) Q)
  (h0:a0m c.H0 ns ⟨e,h⟩ fun σ'=>a0v (ovS e h ke kh ((isl,.int .i64 ((0:Nat):Int))::ue s0) (uh s0)) σ')
  (round:∀(k:Nat) (a:α) (x:σ) (Qn:σ→Prop) (K:St→Prop),(∀σ',(a0m c.H0 ns σ' fun σ'=>∃y,Qn y∧a0v (ovS e h ke kh ((isl,.int .i64 ((k+1:Nat):Int))::ue y) (uh y)) σ')→K σ')→k<xs.length→xs.getD k default=a →
   Ok (body k a x) (Fl.elim Qn fun r=>Q (.ex r))→factsSt (ovS e h ke kh ((isl,.int .i64 k)::ue x) (uh x))→M.go ⟨c.P,c.H0,K,M.kX c s,c.R⟩ b [] (ovS e h ke kh ((isl,.int .i64 k)::ue x) (uh x)))
  (stop:∀(x:σ) (K:St→Prop),Q (.nx x)→M.go ⟨c.P,c.H0,K,M.kX c s,c.R⟩ b [] (ovS e h ke kh ((isl,.int .i64 (xs.length:Int))::ue x) (uh x))):M.go c (.loop b) s ⟨e,h⟩ :=
 M.go_for (fun k x=>ovS e h ke kh ((isl,.int .i64 (k:Int))::ue x) (uh x)) ns hF h0 round fun k x K hk hq _=>by subst hk;exact stop x K hq
theorem a10.fold1 {α σ:Type} [Inhabited α] {b:MC} {body:Int→α→σ→Option σ} {xs:List α} {s0:σ} {Q:σ→Prop} (isl:Nat) (ke kh:List Nat) (ue:σ→List (Nat×V)) (uh:σ→List Up) (ns:List a4y) (hF:Ok (foldL body xs 0 s0) Q)
  (h0:a0m c.H0 ns ⟨e,h⟩ fun σ'=>a0v (ovS e h ke kh ((isl,.int .i64 ((0:Nat):Int))::ue s0) (uh s0)) σ')
  (round:∀(k:Nat) (a:α) (x:σ) (Qn:σ→Prop) (K:St→Prop),(∀σ',(a0m c.H0 ns σ' fun σ'=>∃y,Qn y∧a0v (ovS e h ke kh ((isl,.int .i64 ((k+1:Nat):Int))::ue y) (uh y)) σ')→K σ')→k<xs.length→xs.getD k default=a →
   Ok (body k a x) Qn→factsSt (ovS e h ke kh ((isl,.int .i64 k)::ue x) (uh x))→M.go ⟨c.P,c.H0,K,M.kX c s,c.R⟩ b [] (ovS e h ke kh ((isl,.int .i64 k)::ue x) (uh x)))
  (stop:∀(x:σ) (K:St→Prop),Q x→M.go ⟨c.P,c.H0,K,M.kX c s,c.R⟩ b [] (ovS e h ke kh ((isl,.int .i64 (xs.length:Int))::ue x) (uh x))):M.go c (.loop b) s ⟨e,h⟩ :=
 M.go_fold (fun k x=>ovS e h ke kh ((isl,.int .i64 (k:Int))::ue x) (uh x)) ns hF h0 round fun k x K hk hq _=>by subst hk;exact stop x K hq
end
theorem b69 {α:Type}:∀{l:List α} {i:Nat} {a:α},l[i]?=some a→(a::l.eraseIdx i).Perm l
 | x::r,0,a,h=>by simp at h;subst h;exact List.Perm.refl _
 | x::r,i+1,a,h=>by
  simp at h
  exact (List.Perm.swap x a _).trans ((b69 h).cons x)
 | [],_,_,h=>by simp at h
section
variable {M:a10} {c:Cfg} {e:List (Nat×V)} {h:Heap} {s:List Fr}
theorem a10.mfold1 {α σ γ:Type} {b:MC} {kv:α→V×V} {body:Int→α→σ→Option σ} {es:List α} {s0:σ} {R:σ→Option γ} {Q:γ→Prop} (it:Nat) (ke kh:List Nat) (ue:σ→List (Nat×V)) (uh:σ→List Up) (ns:List a4y)
  (hF:Ok (c1r (fun l=>(foldL body l 0 s0).bind R) es) Q)
  (h0:a0m c.H0 ns ⟨e,h⟩ fun σ'=>a0v (ovS e h ke kh (ue s0) (.o it (.iter (es.map kv) none)::uh s0)) σ')
  (round:∀(rem:List α) (cur:Option (V×V)) (x:σ) (k:Int) (Qn:Nat→σ→Prop) (K:St→Prop),(∀i cur' σ',(a0m c.H0 ns σ' fun σ'=>∃y,Qn i y∧a0v (ovS e h ke kh (ue y) (.o it (.iter ((rem.eraseIdx i).map kv) cur')::uh y)) σ')→K σ') →
   (rem=[]→Ok (R x) Q)→(∀i a,rem[i]?=some a→Ok (body k a x) (Qn i)) →
   M.go ⟨c.P,c.H0,K,M.kX c s,c.R⟩ b [] (ovS e h ke kh (ue x) (.o it (.iter (rem.map kv) cur)::uh x))):M.go c (.loop b) s ⟨e,h⟩:=by
 obtain ⟨r0,hr0,hq0⟩:=hF
 have hp0:=c8u hr0
 refine M.go_loop (fun x:List α×Option (V×V)×Int×σ=>ovS e h ke kh (ue x.2.2.2) (.o it (.iter (x.1.map kv) x.2.1)::uh x.2.2.2))
  (fun x=>∀l,l.Perm x.1→Ok ((foldL body l x.2.2.1 x.2.2.2).bind R) Q) (fun x=>x.1.length) ns
  (a1p (fun σ' h=>⟨(es,none,0,s0),fun l hl=>⟨r0,hp0 l hl,hq0⟩,h⟩) h0) fun x hx _=>?_
 obtain ⟨rem,cur,k,x⟩:=x
 simp only at hx
 refine round rem cur x k (fun i y=>i<rem.length∧∀l,l.Perm (rem.eraseIdx i)→Ok ((foldL body l (k+1) y).bind R) Q) _
  (fun i cur' σ' h=>Lk.mk (a1p (fun σ'' ⟨y,⟨hi,h1⟩,h2⟩=>⟨(rem.eraseIdx i,cur',k+1,y),h1,by simp only;rw [List.length_eraseIdx];split<;>omega,h2⟩) h)) (fun hr=>?_) fun i a ha=>?_
 ·have:=hx [] (by rw [hr])
  simpa only [foldL,xY] using this
 ·have hi:i<rem.length:=(zG.1 ha).1
  have h1:∀l,l.Perm (rem.eraseIdx i)→Ok ((foldL body (a::l) k x).bind R) Q:=fun l hl=>hx _ ((hl.cons a).trans (b69 ha))
  have h2:=h1 _ (List.Perm.refl _)
  simp only [foldL] at h2
  cases hb:body k a x with
  | none=>rw [hb] at h2;simp [b8i] at h2
  | some y =>
   refine ⟨y,rfl,hi,fun l hl=>?_⟩
   have:=h1 l hl
   simpa only [foldL,hb,xY] using this
end
section
variable {M:a10} {c:Cfg} {e:List (Nat×V)} {h:Heap} {s:List Fr}
theorem a10.rforC {α σ ρ:Type} {q:Opd} {ps:List Nat} {a b:MC} {gf:Nat} {caps:List V} {enc:α→List V} {body:Int→α→σ→Option (Fl σ ρ)} {xs:List α} {s0:σ} {Q:Fl σ ρ→Prop} (Hc:Heap) (pins:List Nat) (kh:List Nat) (uh:σ→List Up) (ns:List a4y)
  (hF:Ok (forL body xs 0 s0) Q) (hq:q.ev e=.fn (.func gf) caps) (hit:b8k c.P gf caps Hc (xs.map enc)) (hsc:a0v ⟨[],Hc⟩ ⟨e,h⟩) (hpin:c06 pins e=true) (hxs:∀a,(enc a).length=ps.length∧V.withinL [] (enc a)=true)
  (h0:a0v ⟨[],(ovS e h [] kh [] (uh s0)).heap⟩ ⟨e,h⟩) (hdis:∀q∈Hc,find q.1 (ovS e h [] kh [] (uh s0)).heap=none)
  (round:∀(k:Nat) (v:α) (x:σ) (Qn:σ→Prop) (K:St→Prop),(∀σ',(a0m (b7l c.H0 pins) ns σ' fun σ'=>∃y,Qn y∧a0v ⟨[],(ovS e h [] kh [] (uh y)).heap⟩ σ')→K σ')→k<xs.length →
   Ok (body k v x) (Fl.elim Qn fun r=>Q (.ex r))→b0p (ovS e h [] kh [] (uh x)).heap →
   M.go ⟨c.P,b7l c.H0 pins,K,fun i σ'=>M.kX c s i ⟨e,σ'.heap⟩,fun σ'=>c.R ⟨e,σ'.heap⟩⟩ (.seq a b) [] ⟨b5m ps (enc v) e,(ovS e h [] kh [] (uh x)).heap⟩)
  (hst:a.straight=true) (stop:∀x,Q (.nx x)→M.kN c s ⟨e,(ovS e h [] kh [] (uh x)).heap⟩):M.go c (.rngF q ps a b) s ⟨e,h⟩:=by
 refine M.go_rngF Hc (xs.map enc) pins (fun _ x=>(ovS e h [] kh [] (uh x)).heap) (fun k x=>k≤xs.length∧Ok (forL body (xs.drop k) k x) Q) ns hq hit hsc hpin (fun l hl=>?_) ⟨s0,⟨vG _,hF⟩,h0,hdis⟩ (fun k x l hk hp hf=>?_) hst fun x hx=>?_
 ·obtain ⟨a,_,rfl⟩:=vD.1 hl
  exact hxs a
 ·rw [xR] at hk
  cases ha:xs[k]? with
  | none=>rw [ha] at hk;cases hk
  | some a =>
   rw [ha] at hk;cases hk
   have hlt:k<xs.length:=(zG.1 ha).1
   refine round k a x (fun y=>Ok (forL body (xs.drop (k+1)) (k+1:Nat) y) Q) _ (fun σ' h=>Lk.mk (a1p (fun σ'' ⟨y,h1,h2⟩=>⟨y,⟨hlt,h1⟩,h2⟩) h)) hlt ?_ hf
   obtain ⟨_,hx⟩:=hp
   have e1:xs.drop k=a::xs.drop (k+1):=by
    rw [List.drop_eq_getElem_cons hlt]
    have:=(zG.1 ha).2
    rw [this]
   rw [e1] at hx
   simp only [forL,a9m] at hx
   obtain ⟨o,ho,hx⟩:=hx
   refine ⟨o,ho,?_⟩
   cases o with
   | nx y=>exact hx
   | ex r=>simpa only [Fl.elim,b2d] using hx
 ·obtain ⟨_,hx⟩:=hx
  rw [wL,List.drop_length] at hx
  simp only [forL,b2d] at hx
  exact stop x hx
theorem a10.rfor {α σ ρ:Type} {q:Opd} {ps:List Nat} {a b:MC} {gf:Nat} {caps:List V} {enc:α→List V} {body:Int→α→σ→Option (Fl σ ρ)} {xs:List α} {s0:σ} {Q:Fl σ ρ→Prop} (pins:List Nat) (kh:List Nat) (uh:σ→List Up) (ns:List a4y)
  (hF:Ok (forL body xs 0 s0) Q) (hq:q.ev e=.fn (.func gf) caps) (hit:b8k c.P gf caps [] (xs.map enc)) (hpin:c06 pins e=true) (hxs:∀a,(enc a).length=ps.length∧V.withinL [] (enc a)=true)
  (h0:a0v ⟨[],(ovS e h [] kh [] (uh s0)).heap⟩ ⟨e,h⟩)
  (round:∀(k:Nat) (v:α) (x:σ) (Qn:σ→Prop) (K:St→Prop),(∀σ',(a0m (b7l c.H0 pins) ns σ' fun σ'=>∃y,Qn y∧a0v ⟨[],(ovS e h [] kh [] (uh y)).heap⟩ σ')→K σ')→k<xs.length →
   Ok (body k v x) (Fl.elim Qn fun r=>Q (.ex r))→b0p (ovS e h [] kh [] (uh x)).heap →
   M.go ⟨c.P,b7l c.H0 pins,K,fun i σ'=>M.kX c s i ⟨e,σ'.heap⟩,fun σ'=>c.R ⟨e,σ'.heap⟩⟩ (.seq a b) [] ⟨b5m ps (enc v) e,(ovS e h [] kh [] (uh x)).heap⟩)
  (hst:a.straight=true) (stop:∀x,Q (.nx x)→M.kN c s ⟨e,(ovS e h [] kh [] (uh x)).heap⟩):M.go c (.rngF q ps a b) s ⟨e,h⟩ :=
 M.rforC [] pins kh uh ns hF hq hit ⟨rfl,trivial,trivial⟩ hpin hxs h0 (fun _ h=>by cases h) round hst stop
end
theorem d9w {α:Type} {f:α→V×V} {l:List α} {p:Prop} {q:Nat→V×V→Prop}:((l.map f=[]→p)∧∀(i:Nat) (e:V×V),(l.map f)[i]?=some e→q i e)=((l=[]→p)∧∀(i:Nat) (a:α),l[i]?=some a→q i (f a)):=by
 refine propext ⟨fun ⟨h1,h2⟩=>⟨fun h=>h1 (by simp [h]),fun i a ha=>h2 i (f a) (by rw [xR,ha];rfl)⟩,fun ⟨h1,h2⟩=>⟨fun h=>h1 (by simpa using h),fun i e he=>?_⟩⟩
 rw [xR] at he
 cases ha:l[i]? with
 | none=>rw [ha] at he;cases he
 | some a=>rw [ha] at he;cases he;exact h2 i a ha
theorem e7v {α:Type} {rem:List α} {A A':Prop} {B B':Nat→α→Prop} (hs:rem=[]→A') (hn:∀i a,rem[i]?=some a→B' i a) (h1:A'→A) (h2:∀i a,B' i a→B i a):(rem=[]→A)∧∀(i:Nat) (a:α),rem[i]?=some a→B i a :=
 ⟨fun h=>h1 (hs h),fun i a h=>h2 i a (hn i a h)⟩
theorem d0r {α:Type} {f:α→V×V} {l:List α} {i:Nat}:(l.map f).eraseIdx i=(l.eraseIdx i).map f:=by
 induction l generalizing i with
 | nil=>rfl
 | cons x r ih=>cases i with
  | zero=>rfl
  | succ i=>simp [ih]
theorem a1s {n:Int} (h:(V.int .i64 n).fact):-9223372036854775808≤n∧n≤9223372036854775807:=h
theorem fork {a b a' b' p q:Prop} (h:(p→a')∧(q→b')) (h1:p→a'→a) (h2:q→b'→b):(p→a)∧(q→b):=⟨fun x=>h1 x (h.1 x),fun x=>h2 x (h.2 x)⟩
theorem a4a {a b a' b' p q:Prop} (h:(q→b')∧(p→a')) (h1:p→a'→a) (h2:q→b'→b):(p→a)∧(q→b):=⟨fun x=>h1 x (h.2 x),fun x=>h2 x (h.1 x)⟩
def ltb (n m:Nat):Bool:=decide (n<m)
theorem f02 {i:Int} {n:Nat} (h:inb i n=true):ltb i.toNat n=true:=wR (a1v h)
theorem c7h {i:Int} {n:Nat}:(i.toNat<n)=(ltb i.toNat n=true):=propext ⟨fun h=>wR h,fun h=>of_decide_eq_true h⟩
theorem d5t {a b p q:Prop} (h1:p→a) (h2:q→b):(p→a)∧(q→b):=⟨h1,h2⟩
theorem appG {r:Bool} {P:V→Prop} {l:List V} {a a':Prop} (h:r=true∧a') (h1:r=true→a'→a) (hl:∀y,y∈l→P y:=by first|(simp [V.cells];done)|(intro y hy;rcases wV.1 hy with rfl|hy<;>first|rfl|(obtain ⟨z,_,rfl⟩:=vD.1 hy;rfl))):(r=true∧∀y,y∈l→P y)∧a:=⟨⟨h.1,hl⟩,h1 h.1 h.2⟩
theorem b3v {r:Bool} {P:V→Prop} {l:List V} {a a':Prop} (h:r=true∧a') (h1:r=true→a'→a) (hl:∀y,y∈l→P y:=by first|(simp [V.cells];done)|(intro y hy;rcases wV.1 hy with rfl|hy<;>first|rfl|(obtain ⟨z,_,rfl⟩:=vD.1 hy;rfl))):(∀y,y∈l→P y)∧a:=⟨hl,h1 h.1 h.2⟩
theorem a3y {n m:Int} {b:Nat} {a a':Prop} (h:b5l n m b=true∧a') (h1:b5l n m b=true→a'→a):(0≤n∧n≤m∧m*(b:Int)≤140737488355328)∧a:=⟨a6b.1 h.1,h1 h.1 h.2⟩
theorem b3a {a a' p:Prop} (h:p∧a') (h1:p→a'→a):p∧a:=⟨h.1,h1 h.1 h.2⟩
theorem e3s {α β γ:Type} {f:α→γ} {g:β→γ} {a:α}:Sum.elim f g (.inl a)=f a:=rfl
theorem e3r {α β γ:Type} {f:α→γ} {g:β→γ} {b:β}:Sum.elim f g (.inr b)=g b:=rfl
theorem b80 {α:Type} [Inhabited α] {f:α→V} {l:List α} {i:Nat} (h:i<l.length):(l.map f)[i]?=some (f (l.getD i default)):=by simp [h]
theorem g0z {α:Type} [Inhabited α] {f:α→V} {l:List α} {i:Nat} {cs:List V} (h:i<l.length) (e:f (l.getD i default)=.agg cs):(l.map f)[i]?=some (V.agg cs):=(b80 h).trans (congrArg some e)
theorem g0y {α:Type} {f:α→V} {l:List α} {i:Nat} {cs:List V} (h:i<l.length):((l.map f).set i (V.agg cs))[i]?=some (V.agg cs):=by rw [List.getElem?_set_self (by rw [wL];exact h)]
theorem f8q {a b:Nat} {xs:List V}:(V.sl xs).sw a b=.sl xs:=by simp [V.sw]
theorem e79 {a b:Nat} {k:IntKind} {n:Int}:(V.int k n).sw a b=.int k n:=by simp [V.sw]
theorem d8m {a b:Nat} {x:Bool}:(V.bool x).sw a b=.bool x:=by simp [V.sw]
theorem e77 {a b:Nat} {x:List UInt8}:(V.str x).sw a b=.str x:=by simp [V.sw]
theorem d8k {a b:Nat} {kd:KD} {es:List (V×V)}:(V.smap kd es).sw a b=.smap kd es:=by simp [V.sw]
theorem d8l {a b:Nat} {c:UInt8}:(a0r c).sw a b=a0r c:=by simp [a0r,V.sw]
theorem e7a {a b k:Nat} {xs:List V} {t:Option TypeId}:(a0g.arr k xs t).sw a b=.arr k xs t:=rfl
theorem e78 {a b:Nat} {kd:KD} {es:List (V×V)}:(a0g.map kd es).sw a b=.map kd es:=rfl
theorem f2f {a:UInt8} {t:List UInt8}:([V.int .u8 (a.toNat:Int)]=t.map a0r)=(t=[a]):=propext
 ⟨fun h=>(bytes_inj (a:=[a]) h).symm,fun h=>by subst h;rfl⟩
theorem e2x {a b:UInt8} {t:List UInt8}:([V.int .u8 92,V.int .u8 120,V.int .u8 (a.toNat:Int),V.int .u8 (b.toNat:Int)]=t.map a0r)=(t=[92,120,a,b]):=propext
 ⟨fun h=>(bytes_inj (a:=[92,120,a,b]) (b:=t) h).symm,fun h=>by subst h;rfl⟩
theorem f2e {a b:UInt8} {t:List UInt8}:([V.int .u8 (a.toNat:Int),V.int .u8 (b.toNat:Int)]=t.map a0r)=(t=[a,b]):=propext
 ⟨fun h=>(bytes_inj (a:=[a,b]) h).symm,fun h=>by subst h;rfl⟩
section
variable {M:a10} {c:Cfg} {d:Option Nat} {r:List MOp} {s:List Fr} {e e0:List (Nat×V)} {h h0:Heap} {anc:List (List Nat)} {u t m:List Nat} {log:List Ent} {x:List UInt8} {n:Nat}
theorem a10.b2s_e:(∃t:List UInt8,t=x∧t.length=n∧a0u (M.lok c d r s e h) (.str t))=(x.length=n∧a0u (M.aft c d r s e h) (.str x)):=by
 simp [M.lok_comp]
theorem a10.b2s_eD:(∃t':List UInt8,t'=x∧t'.length=n∧a0u (M.lokD c anc e0 h0 d u t m r log s e h) (.str t'))=(x.length=n∧a0u (M.aftD c anc e0 h0 d u t m r log s e h) (.str x)):=by
 simp [M.lokD_comp]
end
def slV {α:Type} (f:α→V) (xs:List α):V:=.sl (xs.map f)
def kvV {α β:Type} (f:α→V) (g:β→V) (p:α×β):V×V:=(f p.1,g p.2)
def mpV {α β:Type} (kd:KD) (f:α→V) (g:β→V) (m:List (α×β)):V:=.smap kd (m.map (kvV f g))
theorem d2i (n:Int):((u8 n).toNat:Int)=n % 256:=by
 unfold u8
 have h:(n % 256).toNat<256:=by omega
 rw [UInt8.toNat_ofNat_of_lt' h];omega
theorem wrap_u8 (n:Int):IntKind.wrap .u8 n=((u8 n).toNat:Int):=by
 rw [d2i];simp [IntKind.wrap,IntKind.signed,IntKind.bits]
def d7l (a b:Int):Bool:=decide (0≤a)&&decide (0<b)
theorem b8a {a b:Int}:d7l a b=true↔0≤a∧0<b:=by simp [d7l]
def nzb (b:Int):Bool:=!decide (b=0)
theorem d9v {b:Int}:(b≠0)=(nzb b=true):=propext (by simp [nzb])
theorem d3h {b:Int}:(¬b=0)=(nzb b=true):=propext (by simp [nzb])
def e7f (b:Int) (n:Nat):Bool:=decide (0≤b)&&decide (b≤n)
def d6v (k:IntKind) (n:Int):Bool:=decide (k.min≤n)&&decide (n≤k.max)
def b1d {α β:Type} [DecidableEq α] (k:α):List (α×β)→Option β
 | []=>none
 | (a,b)::r=>if k=a then some b else b1d k r
def c0x {α β:Type} [DecidableEq α] (k:α) (v:β):List (α×β)→List (α×β)
 | []=>[(k,v)]
 | (a,b)::r=>if k=a then (a,v)::r else (a,b)::c0x k v r
def c0r {α β:Type} [DecidableEq α] (k:α):List (α×β)→List (α×β)
 | []=>[]
 | (a,b)::r=>if k=a then r else (a,b)::c0r k r
section
variable {α β:Type} [DecidableEq α] {f:α→V} {g:β→V}
theorem b4f (hk:∀a b,keq (f a) (f b)=decide (a=b)) (k:α):∀l:List (α×β),c3y (f k) (l.map (kvV f g))=(b1d k l).map g
 | []=>rfl
 | (a,b)::r=>by
  by_cases e:k=a
  ·simp [c3y,b1d,kvV,hk,e]
  ·simp [c3y,b1d,kvV,hk,e,b4f hk k r]
theorem b4e (hk:∀a b,keq (f a) (f b)=decide (a=b)) (k:α) (v:β):∀l:List (α×β),(c0x k v l).map (kvV f g)=b8l (f k) (g v) (l.map (kvV f g))
 | []=>rfl
 | (a,b)::r=>by
  by_cases e:k=a
  ·simp [b8l,c0x,kvV,hk,e]
  ·simp [b8l,c0x,kvV,hk,e,b4e hk k v r]
theorem b4g (hk:∀a b,keq (f a) (f b)=decide (a=b)) (k:α):∀l:List (α×β),(c0r k l).map (kvV f g)=c5y (f k) (l.map (kvV f g))
 | []=>rfl
 | (a,b)::r=>by
  by_cases e:k=a
  ·simp [c5y,c0r,kvV,hk,e]
  ·simp [c5y,c0r,kvV,hk,e,b4g hk k r]
theorem e82 {k:Int} {l:List (Int×β)}:c3y (.int .i64 k) (l.map (kvV (V.int .i64) g))=(b1d k l).map g:=b4f (fun _ _=>rfl) k l
theorem e81 {k:Str} {l:List (Str×β)}:c3y (.str k) (l.map (kvV V.str g))=(b1d k l).map g:=b4f (fun _ _=>rfl) k l
theorem e7z {k:Int} {v:β} {l:List (Int×β)}:(c0x k v l).map (kvV (V.int .i64) g)=b8l (.int .i64 k) (g v) (l.map (kvV (V.int .i64) g)):=b4e (fun _ _=>rfl) k v l
theorem e7y {k:Str} {v:β} {l:List (Str×β)}:(c0x k v l).map (kvV V.str g)=b8l (.str k) (g v) (l.map (kvV V.str g)):=b4e (fun _ _=>rfl) k v l
theorem e86 {k:Int} {l:List (Int×β)}:(c0r k l).map (kvV (V.int .i64) g)=c5y (.int .i64 k) (l.map (kvV (V.int .i64) g)):=b4g (fun _ _=>rfl) k l
theorem e85 {k:Str} {l:List (Str×β)}:(c0r k l).map (kvV V.str g)=c5y (.str k) (l.map (kvV V.str g)):=b4g (fun _ _=>rfl) k l
end
theorem g51 {d:Bool} {o:Option Bool}:a5s false (.bool d) (o.map V.bool)=.bool (o.getD d):=by cases o<;>rfl
theorem g50 {d:Int} {o:Option Int}:a5s false (.int .i64 d) (o.map (V.int .i64))=.int .i64 (o.getD d):=by cases o<;>rfl
theorem g4y {d:Str} {o:Option Str}:a5s false (.str d) (o.map V.str)=.str (o.getD d):=by cases o<;>rfl
theorem g4z {α:Type} {f:α→V} {o:Option (List α)}:a5s false (.sl []) (o.map (slV f))=.sl ((o.getD []).map f):=by cases o<;>rfl
theorem f06 {d:Bool} {o:Option Bool}:a5s true (.bool d) (o.map V.bool)=.tup [.bool (o.getD d),.bool o.isSome]:=by cases o<;>rfl
theorem f05 {d:Int} {o:Option Int}:a5s true (.int .i64 d) (o.map (V.int .i64))=.tup [.int .i64 (o.getD d),.bool o.isSome]:=by cases o<;>rfl
theorem f03 {d:Str} {o:Option Str}:a5s true (.str d) (o.map V.str)=.tup [.str (o.getD d),.bool o.isSome]:=by cases o<;>rfl
theorem f04 {α:Type} {f:α→V} {o:Option (List α)}:a5s true (.sl []) (o.map (slV f))=.tup [.sl ((o.getD []).map f),.bool o.isSome]:=by cases o<;>rfl
theorem e1l {i:Int} {n:Nat}:(0≤i∧i<(n:Int))=(inb i n=true):=propext p8.symm
theorem e1k {a b:Int} {n:Nat}:(0≤a∧a≤b∧b≤(n:Int))=(inc a b n=true):=propext a1u.symm
theorem d30 {n b:Nat}:(n*b≤140737488355328)=(room n b=true):=propext a0z.symm
theorem c8e {n m:Int} {b:Nat}:(0≤n∧n≤m∧m*b≤140737488355328)=(b5l n m b=true):=propext a6b.symm
theorem d5g {a b:Int}:(0≤a∧0<b)=(d7l a b=true):=propext b8a.symm
theorem g01 {n:Nat} {b:Bool}:List.replicate n (V.bool b)=(List.replicate n b).map V.bool:=List.map_replicate.symm
theorem f9z {n:Nat} {b:Int}:List.replicate n (V.int .u64 b)=(List.replicate n b).map (V.int .u64):=List.map_replicate.symm
theorem e7r {n:Nat}:List.replicate n (V.sl [])=(List.replicate n ([]:List Int)).map (slV (V.int .i64)):=by rw [List.map_replicate];rfl
theorem b5z {a:Int}:(0≤a∧a≤64)=(e7f a 64=true):=propext (by simp [e7f])
theorem g00 {n:Nat} {b:Int}:List.replicate n (V.int .i64 b)=(List.replicate n b).map (V.int .i64):=List.map_replicate.symm
open Classical in
def amb {α:Type} (c:Bool) (a b:Option α):Option α:=if c=true→a=b then b else none
theorem d7s {α:Type} {c:Bool} {a b:Option α} (h:c=true→a=b):amb c a b=b:=by unfold amb;exact if_pos h
theorem d63 {α:Type} {c:Bool} {a b:Option α} {Q:α→Prop} {p A B:Prop} (h:Ok (amb c a b) Q) (hp:p→c=true) (h1:c=true→Ok a Q→A) (h2:Ok b Q→B):(p→A)∧B:=by
 unfold amb at h
 split at h
 ·rename_i hc
  exact ⟨fun x=>h1 (hp x) (by rw [hc (hp x)];exact h),h2 h⟩
 ·rw [b8i] at h;exact h.elim
theorem b89 {α:Type} [Inhabited α] {f:α→V} {xs:List α} {k:Nat} {a:α} (ha:xs.getD k default=a) (hk:k<xs.length):(xs.map f).drop (k*1)=f a::(xs.map f).drop (k+1):=by
 rw [Nat.mul_one,←List.map_drop,b54 hk,ha,wW,List.map_drop]
theorem b44 (k:IntKind) {n:Int}:rng k n=(d6v k n=true):=propext (by rw [←a1q];simp [d6v,inR])
theorem d34 {n:Int}:rng .i32 n=(d6v .i32 n=true):=b44 .i32
theorem d32 {n:Int}:rng .u32 n=(d6v .u32 n=true):=b44 .u32
theorem d31 {n:Int}:rng .u64 n=(d6v .u64 n=true):=b44 .u64
theorem d35 {n:Int}:rng .i16 n=(d6v .i16 n=true):=b44 .i16
theorem d33 {n:Int}:rng .u16 n=(d6v .u16 n=true):=b44 .u16
attribute [irreducible] a0j inb inc room b5l d7l e7f d6v ltb
@[reducible,go_sem] def mo (i:a02) (d:Nat):MOp:=⟨i,some d,none⟩
theorem kI {k:Nat} (h:(k:Int)+1≤9223372036854775807):a0j ((k:Int)+1)=true:=x8.2 ⟨by omega,by omega⟩
structure Cv (p q:Prop):Prop where
 e:p=q
theorem Cv.r {p:Prop}:Cv p p:=⟨rfl⟩
theorem tB {p q:Prop} (h:q) (e:Cv p q:=by (simp (maxSteps:=400000) only [go_sem,Nat.reduceBEq,Nat.reduceAdd,Nat.reduceLeDiff,Nat.reduceSub,Nat.reduceMul,Int.reduceToNat,Int.reduceLT,Int.reduceLE];exact Cv.r)):p:=e.e▸h
theorem tH {p q:Prop} (h:p) (e:Cv p q:=by (simp (maxSteps:=400000) only [go_sem,Nat.reduceBEq,Nat.reduceAdd,Nat.reduceLeDiff,Nat.reduceSub,Nat.reduceMul,Int.reduceToNat,Int.reduceLT,Int.reduceLE];exact Cv.r)):q:=e.e▸h
theorem tU0 {p:Prop} (h:p:=by (refine ⟨?_,?_,?_⟩<;>(try simp (maxSteps:=400000) only [go_sem,Nat.reduceBEq,Nat.reduceAdd,Nat.reduceLeDiff,Nat.reduceSub,Nat.reduceMul,Int.reduceToNat,Int.reduceLT,Int.reduceLE,St.good,c5v,distinct,a0v,e5e,c52])<;>(repeat' (first|exact trivial|rfl|apply And.intro|(simp;done))))):p:=h
theorem tU {p:Prop} (h:p:=by (refine ⟨?_,?_,?_⟩<;>(try simp (maxSteps:=400000) only [go_sem,Nat.reduceBEq,Nat.reduceAdd,Nat.reduceLeDiff,Nat.reduceSub,Nat.reduceMul,Int.reduceToNat,Int.reduceLT,Int.reduceLE,St.good,c5v,distinct,a0v,e5e,c52, *])<;>(repeat' (first|exact trivial|rfl|apply And.intro|(simp [*];done)|(exfalso;simp only [xW,Bool.not_eq_false',xN,zK] at *;contradiction))))):p:=h
theorem tK {p q a b c d e:Prop} (h1:a) (h2:b) (h3:c) (h4:d) (h5:e) (h:q) (e:a→b→c→d→e→Cv p q:=by (intro h1 h2 h3 h4 h5;simp (maxSteps:=400000) only [go_sem,Nat.reduceBEq,Nat.reduceAdd,Nat.reduceLeDiff,Nat.reduceSub,Nat.reduceMul,Int.reduceToNat,Int.reduceLT,Int.reduceLE,h1,h2,h3,h4,h5];exact Cv.r)):p:=(e h1 h2 h3 h4 h5).e▸h
theorem tKA {p q a b c d e f g i j:Prop} (h1:a) (h2:b) (h3:c) (h4:d) (h5:e) (h6:f) (h7:g) (h8:i) (h9:j) (h:q) (e:a→b→c→d→e→f→g→i→j→Cv p q:=by (intro h1 h2 h3 h4 h5 h6 h7 h8 h9;simp (maxSteps:=400000) only [go_sem,Nat.reduceBEq,Nat.reduceAdd,Nat.reduceLeDiff,Nat.reduceSub,Nat.reduceMul,Int.reduceToNat,Int.reduceLT,Int.reduceLE,h1,h2,h3,h4,h5,h6,h7,h8,decide_true,vN,h9];exact Cv.r)):p:=(e h1 h2 h3 h4 h5 h6 h7 h8 h9).e▸h
theorem kB {k n:Nat} (h:k<n):inb (k:Int) n=true:=p8.2 ⟨Int.natCast_nonneg k,Int.ofNat_lt.2 h⟩
theorem a9g {α:Type} [Inhabited α] {f:α→V} {l:List α} {i k:Nat} {a:α} (h:k<l.length):((l.map f).set i (f a))[k]?=some (f ((l.set i a).getD k default)):=by
 rw [←List.map_set,xR,zE,zJ (by simpa using h)]
 rfl
theorem a5x {k n:Nat} (h:inb (k:Int) n=true):k<n:=Int.ofNat_lt.1 (p8.1 h).2
theorem kD {k n:Nat} (h:k<n):decide ((k:Int)<(n:Int))=true:=wR (Int.ofNat_lt.2 h)
theorem tZ {p:Prop} (x:p:=by (first|exact hQ _ h|exact trivial|exact False.elim h|(have hq:=hQ _ h;replace hq:=tH hq;exact hq)|(have hq:=hQ _ h;rw [zP (by simp only [x5,wL];omega)];exact hq))):p:=x
theorem b3m {i m:Int} {n:Nat} {a a':Prop} (h:inb i n=true∧a') (h1:inb i n=true→a'→a) (e:(n:Int)=m:=by rfl):(0≤i∧i<m)∧a:=⟨e▸p8.1 h.1,h1 h.1 h.2⟩
theorem b3l {a b m:Int} {n:Nat} {p p':Prop} (h:inc a b n=true∧p') (h1:inc a b n=true→p'→p) (e:(n:Int)=m:=by rfl):(0≤a∧a≤b∧b≤m)∧p:=⟨e▸a1u.1 h.1,h1 h.1 h.2⟩
theorem d03 {c:UInt8}:a0j (c.toNat:Int)=true:=by rw [x8];have:=c.toNat_lt;omega
theorem d4s {n:Nat} {c:UInt8}:(a0r c).has n=false:=by simp [a0r,V.has]
def fnV:Option Nat→V
 | none=>.nilf
 | some f=>.fn (.func f) []
theorem d54:fnV none=.nilf:=rfl
theorem d52 {f:Nat}:fnV (some f)=.fn (.func f) []:=rfl
theorem d7g {o:Option Nat}:(fnV o).sc=true:=by cases o<;>rfl
theorem d0b {o:Option Nat}:(fnV o).one=true:=by cases o<;>rfl
theorem d0d {n:Nat} {o:Option Nat}:(fnV o).has n=false:=by cases o<;>simp [fnV,V.has,V.hasL]
theorem b9u {o:Option Nat}:(fnV o).cells=[fnV o]:=by cases o<;>rfl
theorem c4i {o:Option Nat}:(fnV o).nany=true:=by cases o<;>rfl
theorem d0c {o:Option Nat}:(fnV o).nav=true:=by cases o<;>rfl
theorem d7f {a b:Nat} {o:Option Nat}:(fnV o).sw a b=fnV o:=by cases o<;>simp [fnV,V.sw,V.swL]
theorem b9t {o:Option Nat}:(fnV o).unnil=fnV o:=by cases o<;>simp [fnV,V.unnil]
theorem c4h {o:Option Nat}:(fnV o).oids=[]:=by cases o<;>rfl
theorem d0a {ng:Bool} {o:Option Nat} {K:Eff→Prop}:e5t ng (fnV o) K=K (evl (.bool (bif ng then o.isSome else !o.isSome))):=by cases o<;>cases ng<;>rfl
theorem e1u {n f:Nat}:(V.fn (.func f) []).has n=false:=by simp [V.has,V.hasL]
theorem e3c {d:Nat} {o:Option Nat} {K:Eff→Prop}:d9a d (fnV o) K=K ⟨.ptr d 0,[],[(d,.cells [fnV o])]⟩:=by cases o<;>rfl
attribute [go_sem] d54 d52 d7g d0b d0d b9u c4i d0c d7f b9t c4h d0a e1u e3c
theorem e1t {n:Nat} {b:Bool}:(V.ifc b).has n=false:=by simp [V.has]
theorem e1x {n b o:Nat}:(V.adr b o).has n=false:=by simp [V.has]
theorem f0f {n i b:Nat}:(V.at_ i b).has n=Nat.beq n i:=by simp [V.has]
attribute [go_sem] e1t e1x f0f
attribute [go_sem] d9v d3h
attribute [irreducible] nzb
attribute [go_sem] d03 d4s List.getElem?_cons_zero zN
inductive IsMap {α:Type} (f:α→V):List V→List α→Prop
 | nil:IsMap f [] []
 | cons {a:α} {L:List V} {l:List α} (h:IsMap f L l):IsMap f (f a::L) (a::l)
theorem IsMap.app {α:Type} {f:α→V} {l:List α} {L:List V} {l':List α} (h:IsMap f L l'):IsMap f (l.map f++L) (l++l'):=by
 induction l with
 | nil=>exact h
 | cons a l ih=>exact .cons ih
theorem IsMap.eq {α:Type} {f:α→V} {L:List V} {l:List α} (h:IsMap f L l):L=l.map f:=by
 induction h with
 | nil=>rfl
 | cons h ih=>rw [ih];rfl
theorem tE4 {α:Type} [Inhabited α] {L:List V} {l:List α} (f:α→V) {i:Nat} {p:V→Prop} (b:p (f (l.getD i default))) (e:IsMap f L l:=by repeat (first|exact IsMap.nil|apply IsMap.cons)) (h:i<l.length:=by first|assumption|exact a1v (by assumption)):∃x,L[i]?=some x∧p x:=e.eq▸⟨_,b80 h,b⟩
theorem tE8 {α:Type} [Inhabited α] {L:List V} {l:List α} (f:α→V) {i:Nat} {p:V→Prop} (b:p (f (l.getD i default))) (e:IsMap f L l:=by repeat (first|exact IsMap.nil|apply IsMap.cons)) (h:i<l.length:=by first|assumption|exact a1v (by assumption)):part none (i*1) L p:=by
 have hd:=b89 (f:=f) (a:=l.getD i default) rfl h
 rw [e.eq];unfold part;rw [hd];exact b
theorem b2v {l:List UInt8} {i:Nat} {c:UInt8} {p:List UInt8→Prop}:(∃t:List UInt8,(l.map a0r).set i (V.int .u8 (c.toNat:Int))=t.map a0r∧p t)=p (l.set i c):=by
 have e:(l.map a0r).set i (V.int .u8 (c.toNat:Int))=(l.set i c).map a0r:=by rw [List.map_set];rfl
 rw [e,b84]
theorem a10.b2s_set {M:a10} {c:Cfg} {d:Option Nat} {r:List MOp} {s:List Fr} {e:List (Nat×V)} {h:Heap} {l:List UInt8} {i n:Nat} {b:UInt8}:(∃t:List UInt8,(l.map a0r).set i (V.int .u8 (b.toNat:Int))=t.map a0r∧t.length=n∧a0u (M.lok c d r s e h) (.str t))=((l.set i b).length=n∧a0u (M.aft c d r s e h) (.str (l.set i b))):=by rw [b2v,M.lok_comp]
theorem a10.b2s_setD {M:a10} {c:Cfg} {anc:List (List Nat)} {e0 e:List (Nat×V)} {h0 h:Heap} {d:Option Nat} {u t m:List Nat} {r:List MOp} {log:List Ent} {s:List Fr} {l:List UInt8} {i n:Nat} {b:UInt8}:(∃t':List UInt8,(l.map a0r).set i (V.int .u8 (b.toNat:Int))=t'.map a0r∧t'.length=n∧a0u (M.lokD c anc e0 h0 d u t m r log s e h) (.str t'))=((l.set i b).length=n∧a0u (M.aftD c anc e0 h0 d u t m r log s e h) (.str (l.set i b))):=by rw [b2v,M.lokD_comp]
theorem b3t {n m:Int} {a a':Prop} (h:d7l n m=true∧a') (h1:d7l n m=true→a'→a):0≤n∧a:=⟨(b8a.1 h.1).1,h1 h.1 h.2⟩
theorem tA {p q:Prop} (b:q) (a:p:=by (first|exact e2s rfl|assumption|exact f02 (by assumption)|exact a5x (by assumption)|omega)):p∧q:=⟨a,b⟩
theorem tE {α:Type} [Inhabited α] {f:α→V} {l:List α} {i:Nat} {p:V→Prop} (b:p (f (l.getD i default))) (h:i<l.length:=by exact a1v (by assumption)):∃x,(l.map f)[i]?=some x∧p x:=⟨_,b80 h,b⟩
theorem tY {a b:Prop} (h:a) (e:Cv a b:=by (first|(simp (maxSteps:=400000) only [go_sem,Nat.reduceBEq,Nat.reduceAdd,Nat.reduceLeDiff,Nat.reduceSub,Nat.reduceMul,Int.reduceToNat,Int.reduceLT,Int.reduceLE];exact Cv.r)|exact Cv.r)):b:=e.e▸h
theorem a10.sC (M:a10) {P:Program} {n:Nat} {args cap:List V} {ids news:List Nat} {ob:Nat→Option a0g} {H H1:Heap} {r:V} {c:Cfg} {d:Option Nat} {o:List MOp} {s:List Fr} {e:List (Nat×V)} {h:Heap} (hc:a0o P n (args++cap) H (fun r' H'=>r'=r∧H'=H1)) (x:M.aft c d o s e h ⟨r,ids,H1⟩)
  (hs:b8r ids ob=some H:=by rfl) (hi:b1z H1 ids news=true:=by rfl):b39 P (.fn (.func n) cap) args ids news ob (M.lok c d o s e h):=c3l hc hs hi (by rw [M.lok_eq];exact x)
theorem a10.sD (M:a10) {P:Program} {n:Nat} {args cap:List V} {ids news:List Nat} {ob:Nat→Option a0g} {H H1:Heap} {r:V} {c:Cfg} {anc:List (List Nat)} {e0:List (Nat×V)} {h0:Heap} {d:Option Nat} {u t m:List Nat} {o:List MOp} {log:List Ent} {s:List Fr} {e:List (Nat×V)} {h:Heap} (hc:a0o P n (args++cap) H (fun r' H'=>r'=r∧H'=H1)) (x:M.aftD c anc e0 h0 d u t m o log s e h ⟨r,ids,H1⟩)
  (hs:b8r ids ob=some H:=by rfl) (hi:b1z H1 ids news=true:=by rfl):b42 P (.fn (.func n) cap) args ids news ob (M.lokD c anc e0 h0 d u t m o log s e h):=c81 hc hs hi (by rw [M.lokD_eq];exact x)
def Cn {α:Type} (P:Program) (n:Nat) (args:List V) (H:Heap) (F:Option α) (RV:α→V) (HV:α→Heap):Prop:=∀(Q:α→Prop) (Q':V→Heap→Prop),Ok F Q→(∀z,Q z→Q' (RV z) (HV z))→a0o P n args H Q'
theorem Cn.w {α:Type} {F:Option α} {P:Program} {n:Nat} {args:List V} {H:Heap} {RV:α→V} {HV:α→Heap} (h:Cn P n args H F RV HV) {y:α} (hy:F=some y):a0o P n args H (fun r H'=>r=RV y∧H'=HV y) :=
 h (·=y) _ ⟨_,hy,rfl⟩ fun z e=>e▸⟨rfl,rfl⟩
@[reducible,go_sem] def oV (a d:Nat):MOp:=⟨.mv (.t a),some d,none⟩
@[reducible,go_sem] def oL (a d:Nat):MOp:=⟨.ld none (.t a),some d,none⟩
@[reducible,go_sem] def oF (o a d:Nat):MOp:=⟨.fad o (.t a),some d,none⟩
@[reducible,go_sem] def cI (n:Int):Opd:=.c (.int .i64 n)
@[reducible,go_sem] def oC (n:Int) (d:Nat):MOp:=⟨.mv (.c (.int .i64 n)),some d,none⟩
@[reducible,go_sem] def gF (s d:Nat) (i:a02):MOp:=⟨i,some d,some (s,false)⟩
@[reducible,go_sem] def gT (s d:Nat) (i:a02):MOp:=⟨i,some d,some (s,true)⟩
@[reducible,go_sem] def lN (n a d:Nat):MOp:=⟨.ld (some n) (.t a),some d,none⟩
@[reducible,go_sem] def bx (a d:Nat):MOp:=⟨.box (.t a),some d,none⟩
@[reducible,go_sem] def mF (d:Nat):MOp:=⟨.mv (.c (.bool false)),some d,none⟩
@[reducible,go_sem] def mT (d:Nat):MOp:=⟨.mv (.c (.bool true)),some d,none⟩
@[reducible,go_sem] def lE (a d:Nat):MOp:=⟨.len false (.t a),some d,none⟩
@[reducible,go_sem] def iA (k a b d:Nat):MOp:=⟨.iad k (.t a) (.t b),some d,none⟩
@[reducible,go_sem] def aI (a:Nat) (n:Int) (d:Nat):MOp:=⟨.bin true .add (.t a) (.c (.int .i64 n)),some d,none⟩
@[reducible,go_sem] def sI (a:Nat) (n:Int) (d:Nat):MOp:=⟨.bin true .sub (.t a) (.c (.int .i64 n)),some d,none⟩
@[reducible,go_sem] def pO (a b d:Nat):MOp:=⟨.pick (.t a) (.c (.bool true)) (.t b),some d,none⟩
@[reducible,go_sem] def pA (a b d:Nat):MOp:=⟨.pick (.t a) (.t b) (.c (.bool false)),some d,none⟩
@[reducible,go_sem] def bT (o:BinOp) (a b d:Nat):MOp:=⟨.bin false o (.t a) (.t b),some d,none⟩
@[reducible,go_sem] def bC (o:BinOp) (a:Nat) (n:Int) (d:Nat):MOp:=⟨.bin false o (.t a) (.c (.int .i64 n)),some d,none⟩
@[reducible,go_sem] def xT (i a d:Nat):MOp:=⟨.ext i (.t a),some d,none⟩
@[reducible,go_sem] def nT (a d:Nat):MOp:=⟨.not (.t a),some d,none⟩
@[reducible,go_sem] def k1 (f a d:Nat):MOp:=⟨.call (.f f) [.t a] [] [],some d,none⟩
@[reducible,go_sem] def k2 (f a b d:Nat):MOp:=⟨.call (.f f) [.t a,.t b] [] [],some d,none⟩
@[reducible,go_sem] def k3 (f a b c d:Nat):MOp:=⟨.call (.f f) [.t a,.t b,.t c] [] [],some d,none⟩
@[reducible,go_sem] def ap (k n a b d:Nat):MOp:=⟨.app k n (.t a) (.t b),some d,none⟩
@[reducible,go_sem] def tL (s d a:Nat):MOp:=⟨.ld none (.t a),some d,some (s,true)⟩
@[reducible,go_sem] def ta_ (s d o a:Nat):MOp:=⟨.fad o (.t a),some d,some (s,true)⟩
@[reducible,go_sem] def tV (s d a:Nat):MOp:=⟨.mv (.t a),some d,some (s,true)⟩
@[reducible,go_sem] def fL (s d a:Nat):MOp:=⟨.ld none (.t a),some d,some (s,false)⟩
@[reducible,go_sem] def fa_ (s d o a:Nat):MOp:=⟨.fad o (.t a),some d,some (s,false)⟩
@[reducible,go_sem] def fV (s d a:Nat):MOp:=⟨.mv (.t a),some d,some (s,false)⟩
@[reducible,go_sem] def sR (l:List MOp) (b:MC):MC:=.seq (.reg l) b
theorem a2g {P:Program} {f:Nat} {fn:Func} {args:List V} {H:Heap} {Q:V→Heap→Prop} (mc:MC) (ns:List a4y) (rids:List Nat) (rs:List RS) (hf:P.funcs[f]?=some fn)
  (h:∀M:a10,M.go ⟨P,H,a2j H ns rids rs Q,fun _ _=>False,a2j H ns rids rs Q⟩ mc [] ⟨a4t 0 args,H⟩) (hb:fn.body=some (fn.body.getD .skip):=by rfl) (hc:callable P f=true:=by kernel_rfl)
  (hok:mc.ok P fn.ntmps (fn.body.getD .skip)=true:=by kernel_rfl) (hnh:mc.nh=true:=by kernel_rfl) (hrs:a6s P rs fn.results.toList=true:=by kernel_rfl) (hn:Nat.ble args.length fn.ntmps=true:=by rfl) (hg:St.good ⟨a4t 0 args,H⟩=true:=by rfl):a0o P f args H Q :=
 c33 ns rids rs hf hb hc hnh hok hrs hn hg fun M _=>h M
theorem c7l {α:Type} {f:α→V} {a:V} {L:List α}:List.take (1+L.length) (a::L.map f)=a::L.map f:=zP (by rw [x5,wL];omega)
theorem f1y {α:Type} {l:List α} {i:Nat}:(l.length - i≤(List.take (l.length - i) (List.drop i l)).length)=True:=eq_true (by rw [x4,List.length_drop];omega)
theorem c5s {n:Nat}:(1+n≤n+1)=True:=eq_true (by omega)
attribute [go_sem] c7l f1y c5s Nat.sub_zero
end
end Go.Ab
namespace Go.Ab
section
variable {α β σ ρ:Type} {Q:β→Prop} {P:α→Prop}
theorem Ok.bind {o:Option α} {f:α→Option β} (h:Ok o P) (k:∀y,P y→Ok (f y) Q):Ok (o.bind f) Q:=by
 obtain ⟨y,rfl,hy⟩:=h;exact k y hy
theorem Ok.jn {o:Option α} {f:α→Option β} (h:Ok o P) (k:∀y,P y→Ok (f y) Q):Ok (jn o f) Q:=Ok.bind h k
theorem Ok.grp {x:α} {f:α→Option β} (h:Ok (f x) Q):Ok (grp x f) Q:=h
theorem Ok.chk {b:Bool} {o:Option β} (hb:b=true) (h:Ok o Q):Ok (chk b o) Q:=by rw [d7u];exact ⟨hb,h⟩
theorem Ok.ret {x:β} (h:Q x):Ok (some x) Q:=⟨x,rfl,h⟩
theorem Ok.mono {o:Option β} {Q':β→Prop} (h:Ok o Q') (k:∀y,Q' y→Q y):Ok o Q:=by
 obtain ⟨y,e,hy⟩:=h;exact ⟨y,e,k y hy⟩
theorem Ok.ite {b:Bool} {x y:Option β} (h1:b=true→Ok x Q) (h2:b=false→Ok y Q):Ok (bif b then x else y) Q:=by
 rw [d7t];exact ⟨h1,h2⟩
theorem Ok.eq {o:Option β} {x:β} (h:Ok o (·=x)):o=some x:=by obtain ⟨y,e,rfl⟩:=h;exact e
theorem Ok.of {o:Option β} {x:β} (h:o=some x) (hq:Q x):Ok o Q:=⟨x,h,hq⟩
theorem Ok.val {o:Option β} {x:β} (h:Ok o Q) (e:o=some x):Q x:=by obtain ⟨y,e',h⟩:=h;rw [e] at e';cases e';exact h
theorem Ok.foldI {body:Int→α→σ→Option σ} {Q:σ→Prop} {all:List α} (I:List α→σ→Prop):∀(xs pre:List α) (k:Int) (s:σ),all=pre++xs→k=pre.length→I pre s →
  (∀(pre:List α) (x:α) (r:List α) (s:σ),all=pre++x::r→I pre s→Ok (body pre.length x s) (I (pre++[x])))→(∀s,I all s→Q s)→Ok (foldL body xs k s) Q
 | [],pre,k,s,hw,hk,h,step,fin=>by
  simp only [foldL];exact ⟨s,rfl,fin s (by rw [hw];simpa using h)⟩
 | x::r,pre,k,s,hw,hk,h,step,fin=>by
  simp only [foldL]
  refine Ok.bind (by rw [hk];exact step pre x r s hw h) fun y hy=>?_
  exact Ok.foldI I r (pre++[x]) (k+1) y (by simp [hw]) (by simp [hk]) hy step fin
theorem Ok.fold {body:Int→α→σ→Option σ} {Q:σ→Prop} (I:σ→Prop):∀(xs:List α) (k:Int) (s:σ),I s →
  (∀k x s,x∈xs→I s→Ok (body k x s) I)→(∀s,I s→Q s)→Ok (foldL body xs k s) Q
 | [],k,s,h,step,fin=>⟨s,rfl,fin s h⟩
 | x::r,k,s,h,step,fin=>by
  simp only [foldL]
  exact Ok.bind (step k x s (by simp) h) fun y hy=>Ok.fold I r (k+1) y hy (fun k x s hx=>step k x s (by simp [hx])) fin
theorem Ok.forI {body:Int→α→σ→Option (Fl σ ρ)} {Q:Fl σ ρ→Prop} {all:List α} (I:List α→σ→Prop):∀(xs pre:List α) (k:Int) (s:σ),all=pre++xs→k=pre.length→I pre s →
  (∀(pre:List α) (x:α) (r:List α) (s:σ),all=pre++x::r→I pre s→Ok (body pre.length x s) (Fl.elim (I (pre++[x])) fun r=>Q (.ex r)))→(∀s,I all s→Q (.nx s))→Ok (forL body xs k s) Q
 | [],pre,k,s,hw,hk,h,step,fin=>by
  simp only [forL];exact ⟨_,rfl,fin s (by rw [hw];simpa using h)⟩
 | x::r,pre,k,s,hw,hk,h,step,fin=>by
  simp only [forL]
  refine Ok.bind (by rw [hk];exact step pre x r s hw h) fun y hy=>?_
  cases y with
  | nx s'=>exact Ok.forI I r (pre++[x]) (k+1) s' (by simp [hw]) (by simp [hk]) hy step fin
  | ex e=>exact ⟨_,rfl,hy⟩
theorem Ok.for {body:Int→α→σ→Option (Fl σ ρ)} {Q:Fl σ ρ→Prop} (I:σ→Prop):∀(xs:List α) (k:Int) (s:σ),I s →
  (∀k x s,x∈xs→I s→Ok (body k x s) (Fl.elim I fun r=>Q (.ex r)))→(∀s,I s→Q (.nx s))→Ok (forL body xs k s) Q
 | [],k,s,h,step,fin=>⟨.nx s,rfl,fin s h⟩
 | x::r,k,s,h,step,fin=>by
  simp only [forL]
  refine Ok.bind (step k x s (by simp) h) fun y hy=>?_
  cases y with
  | nx s'=>exact Ok.for I r (k+1) s' hy (fun k x s hx=>step k x s (by simp [hx])) fin
  | ex e=>exact ⟨_,rfl,hy⟩
theorem Ok.loop {step:σ→Option (Fl σ ρ)} {Q:ρ→Prop} (I:σ→Prop) (μ:σ→Nat) (hs:∀s,I s→Ok (step s) (Fl.elim (fun s'=>I s'∧μ s'<μ s) Q)) (s:σ) (h:I s):Ok (loop step s) Q:=by
 rw [a1t]
 refine Ok.bind (hs s h) fun y hy=>?_
 cases y with
 | nx s'=>exact Ok.loop I μ hs s' hy.1
 | ex r=>exact ⟨r,rfl,hy⟩
 termination_by μ s
 decreasing_by exact hy.2
end
def a4r {α ρ:Type} (f:α→Option ρ):List α→Option ρ
 | []=>none
 | x::r=>match f x with
  | some y=>some y
  | none=>a4r f r
def flO {ρ:Type}:Option ρ→Fl Unit ρ
 | some y=>.ex y
 | none=>.nx ()
theorem a2l {α ρ:Type} {body:Int→α→Unit→Option (Fl Unit ρ)} (f:α→Option ρ):∀(xs:List α) (k:Int),(∀k x,x∈xs→body k x ()=some (flO (f x)))→forL body xs k ()=some (flO (a4r f xs))
 | [],k,h=>rfl
 | x::r,k,h=>by
  simp only [forL,h k x (by simp),xY,a4r]
  cases f x with
  | some y=>rfl
  | none=>exact a2l f r (k+1) fun k x hx=>h k x (by simp [hx])
theorem a6y {ρ γ:Type} {a:Unit→γ} {b:ρ→γ} (o:Option ρ):Fl.elim a b (flO o)=(match o with|some y=>b y|none=>a ()):=by cases o<;>rfl
end Go.Ab
namespace Go.Ab
open Go.RowKit
inductive Sh where
 | bool
 | int (k:IntKind)
 | str
 | sl (agg:Bool) (cs:List Sh)
 | rk (R:V→Prop)
mutual
def Sh.has:Sh→V→Prop
 | .bool,x=>∃b,x=.bool b
 | .int k,x=>∃n,x=.int k n∧rng k n
 | .str,x=>∃s,x=.str s
 | .sl agg cs,x=>∃ys,x=.sl ys∧∀y∈ys,bif agg then ∃zs,y=.agg zs∧Sh.hasL cs zs else Sh.hasL cs [y]
 | .rk R,x=>R x
def Sh.hasL:List Sh→List V→Prop
 | [],[]=>True
 | s::r,x::q=>s.has x∧Sh.hasL r q
 | _,_=>False
end
mutual
def shT (P:Program) (ρ:TypeId→Option (V→Prop)):Nat→TypeId→Option (Bool×List Sh)
 | 0,_=>none
 | n+1,t=>match P.underlying t with
  | some .bool=>some (false,[.bool])
  | some (.int k)=>some (false,[.int k])
  | some .string=>some (false,[.str])
  | some (.slice e)=>match ρ t with
   | some R=>some (false,[.rk R])
   | none=>match shT P ρ n e with
    | some (b,cs)=>bif Nat.beq (P.cellsOf e) cs.length&&Nat.blt 0 cs.length&&(b||Nat.beq cs.length 1) then some (false,[.sl b cs]) else none
    | none=>none
  | some (.struct fs)=>match e5f P ρ n 0 fs.toList with
   | some cs=>bif Nat.beq (P.cellsOf t) cs.length then some (true,cs) else none
   | none=>none
  | _=>none
def e5f (P:Program) (ρ:TypeId→Option (V→Prop)):Nat→Nat→List Field→Option (List Sh)
 | 0,_,_=>none
 | _+1,_,[]=>some []
 | n+1,off,f::r=>match shT P ρ n f.type with
  | some (_,cs)=>bif Nat.beq f.offset off&&Nat.beq (P.cellsOf f.type) cs.length then (match e5f P ρ n (off+cs.length) r with|some q=>some (cs++q)|none=>none) else none
  | none=>none
end
theorem b4t:∀{a b:List Sh} {x y:List V},Sh.hasL a x→Sh.hasL b y→Sh.hasL (a++b) (x++y)
 | [],b,[],y,_,h=>h
 | s::r,b,z::q,y,h,h'=>⟨h.1,b4t h.2 h'⟩
 | [],_,_::_,_,h,_=>h.elim
 | _::_,_,[],_,h,_=>h.elim
theorem a5t:∀{a:List Sh} {x:List V},Sh.hasL a x→x.length=a.length
 | [],[],_=>rfl
 | s::r,z::q,h=>by simp [a5t h.2]
 | [],_::_,h=>h.elim
 | _::_,[],h=>h.elim
section
variable {H:Type} {enc:TypeId×Value→H} {P:Program} {w:World} {base:Nat} {sp:Nat→Bool} {held:Bool}
abbrev Old (w:World):Nat→Prop:=fun b=>b<w.heap.size
structure Reads (w:World) (off:Nat) (cs:List Value) (shs:List Sh) (xs:List V):Prop where
 has:Sh.hasL shs xs
 rd:∀(i:Nat) (x:V),xs[i]?=some x→Rd (Old w) w (cs.getD (off+i) undef) x
 sc:∀x∈xs,x.one=true∧x.sc=true
theorem e71 {k:IntKind} {n:Int} (h:(Lit.int k n).wf=true):rng k n:=by
 rw [←a1q]
 simpa [Lit.wf,inR] using h
theorem c3f {a:Addr} {len cap k:Nat} {b:Bool} {shs:List Sh} (hk:0<k) (hks:shs.length=k) (hb:b=true∨k=1) (hl:len≤cap) (hm:cap≤maxLen)
  (h:∀i,i<len→∃cs xs,w.cells? base (a.add (i*k)) k=some cs∧Reads w 0 cs shs xs):∃ys,ys.length=len∧Sh.has (.sl b shs) (.sl ys)∧Rd (Old w) w (.slice (some a) len cap) (.sl ys):=by
 by_cases h0:len=0
 ·subst h0
  exact ⟨[],rfl,⟨[],rfl,fun y hy=>by cases hy⟩,.slz a cap⟩
 obtain ⟨cs0,xs0,hc0,_⟩:=h 0 (by omega)
 obtain ⟨_,_,hcell0⟩:=World.cells?_some hc0
 have hsz:=World.cells?_block hc0 hk
 rw [show (a.add (0*k)).block=a.block from by simp [Addr.add]] at hsz
 have hblk:∃cur e fz,w.heap[a.block]?=some (.cells cur e fz)∧a.spot=none:=by
  have:=hcell0 0 hk
  have hlen:=(World.cells?_some hc0).2.1
  have hs:cs0[0]?=some cs0[0]:=zJ (by omega)
  rw [hs] at this
  have e0:(a.add (0*k)).add 0=a:=by simp [Addr.add]
  rw [e0] at this
  unfold World.cell? at this
  split at this
  ·rename_i cur e fz hh
   refine ⟨cur,e,fz,hh,?_⟩
   split at this
   ·cases this
   ·rename_i hsp;simpa using hsp
  ·cases this
 obtain ⟨cur,e,fz,hh,hspot⟩:=hblk
 obtain ⟨bl,o,spot⟩:=a
 simp only at hh hspot hsz
 subst hspot
 have sp':∀i,∃y:V,i<len→∃cs xs,w.cells? base ((⟨bl,o,none⟩:Addr).add (i*k)) k=some cs∧Reads w 0 cs shs xs∧y.cells=xs∧(bif b then y=.agg xs else xs=[y]):=by
  intro i
  by_cases hi:i<len
  ·obtain ⟨cs,xs,h1,h2⟩:=h i hi
   have hl:=a5t h2.has
   cases b with
   | true=>exact ⟨.agg xs,fun _=>⟨cs,xs,h1,h2,rfl,rfl⟩⟩
   | false =>
    have hk1:k=1:=by
     rcases hb with hb|hb
     ·cases hb
     ·exact hb
    match xs,h2,hl with
    | [x],h2,_ =>
     have:=(h2.sc x (by simp)).1
     refine ⟨x,fun _=>⟨cs,[x],h1,h2,?_,rfl⟩⟩
     cases x<;>first|rfl|simp [V.one] at this
    | [],_,hl=>simp at hl;omega
    | _::_::_,_,hl=>simp at hl;omega
  ·exact ⟨.any,fun h=>absurd h hi⟩
 obtain ⟨pick,sp⟩:∃pick:Nat→V,∀i,i<len→∃cs xs,w.cells? base ((⟨bl,o,none⟩:Addr).add (i*k)) k=some cs∧Reads w 0 cs shs xs∧(pick i).cells=xs∧(bif b then pick i=.agg xs else xs=[pick i]) :=
  ⟨fun i=>(sp' i).choose,fun i=>(sp' i).choose_spec⟩
 have hcc:∀(i j:Nat) (x c:V),((List.range len).map pick)[i]?=some x→x.cells[j]?=some c→i<len∧j<k∧o+i*k+j<cur.size∧Rd (Old w) w (cur.getD (o+i*k+j) undef) c:=by
  intro i j x c hx hc
  rw [xR] at hx
  have hi:i<len:=by
   cases hr:(List.range len)[i]? with
   | none=>rw [hr] at hx;cases hx
   | some z=>have:=(zG.1 hr).1;simpa using this
  rw [List.getElem?_range hi] at hx
  simp at hx;subst hx
  obtain ⟨cs,xs,h1,h2,h3,_⟩:=sp i hi
  rw [h3] at hc
  have hj:j<k:=by rw [←hks,←a5t h2.has];exact (zG.1 hc).1
  obtain ⟨_,hlen,hcell⟩:=World.cells?_some h1
  have:=hcell j hj
  have e1:((⟨bl,o,none⟩:Addr).add (i*k)).add j=⟨bl,o+i*k+j,none⟩:=by rw [Addr.add_lit,Addr.add_lit]
  rw [e1] at this
  have hs:cs[j]?=some cs[j]:=zJ (by omega)
  rw [hs] at this
  simp only [World.cell?,hh,Option.isSome_none,xM,if_false] at this
  have hlt:=(zF.1 this).1
  refine ⟨hi,hj,hlt,?_⟩
  have hr:=h2.rd j c hc
  rw [w8] at hr
  have e2:cs.getD j undef=cs[j]:=by simp [List.getD,hs]
  have e3:cur.getD (o+i*k+j) undef=cs[j]:=by simp [zC,this]
  rw [e2] at hr
  rw [e3];exact hr
 have hmem:∀y∈(List.range len).map pick,∃i,i<len∧y=pick i:=by
  intro y hy
  obtain ⟨i,hi,rfl⟩:=vD.1 hy
  exact ⟨i,by simpa using hi,rfl⟩
 refine ⟨(List.range len).map pick,by simp,⟨_,rfl,fun y hy=>?_⟩,.sl bl o len cap k cur e fz _ hsz hh (by simp) (by omega) hl (.inr ?_) (fun y hy=>?_) fun i j x c hx hc=>(hcc i j x c hx hc).2.2.2⟩
 ·obtain ⟨i,hi,rfl⟩:=hmem y hy
  obtain ⟨cs,xs,h1,h2,h3,h4⟩:=sp i hi
  cases b with
  | true=>exact ⟨xs,h4,h2.has⟩
  | false=>simp only [vL] at h4 ⊢;rw [←h4];exact h2.has
 · -- the row is long enough
  obtain ⟨cs,xs,h1,h2,h3,_⟩:=sp (len - 1) (by omega)
  have hxl:=a5t h2.has
  have hlast:(pick (len - 1)).cells[k - 1]?=some ((pick (len - 1)).cells[k - 1]'(by rw [h3,hxl,hks];omega)):=zJ _
  have:=hcc (len - 1) (k - 1) (pick (len - 1)) _ (by rw [xR,List.getElem?_range (by omega)];rfl) hlast
  have e1:(len - 1)*k+k=len*k:=by
   rw [←Nat.succ_mul];congr 1;omega
  omega
 ·obtain ⟨i,hi,rfl⟩:=hmem y hy
  obtain ⟨cs,xs,h1,h2,h3,h4⟩:=sp i hi
  refine ⟨by rw [h3,a5t h2.has,hks],fun c hc=>(h2.sc c (by rw [←h3];exact hc)).1,?_⟩
  cases b with
  | true=>simp only [vN] at h4;rw [h4];simp only [V.sealed,wB];exact fun c hc=>(h2.sc c hc).2
  | false =>
   simp only [vL] at h4
   have:=(h2.sc (pick i) (by rw [h4];simp))
   have hs:=this.2
   generalize pick i=z at hs this
   cases z<;>first|exact hs|simp [V.one] at this
def d68 (H:Type) (enc:TypeId×Value→H) (P:Program) (w:World) (base:Nat) (sp:Nat→Bool) (held:Bool) (ρ:TypeId→Option (V→Prop)) (F:Nat):Prop :=
 ∀t R,ρ t=some R→∀fuel,fuel≤F→∀(e:TypeId) (cs:List Value) (x:DataW H×List MemPlace),P.underlying t=some (.slice e)→DataW.trod enc P w base sp held fuel t cs=some x→∃y,Reads w 0 cs [.rk R] [y]∧cs.length=1
theorem c1c {ρ:TypeId→Option (V→Prop)} {F:Nat} (hρ:d68 H enc P w base sp held ρ F):∀(n:Nat),(∀(fuel:Nat),fuel≤F→∀(t:TypeId) (cs:List Value) (x:DataW H×List MemPlace) (b:Bool) (shs:List Sh),shT P ρ n t=some (b,shs)→DataW.trod enc P w base sp held fuel t cs=some x→∃xs,Reads w 0 cs shs xs∧cs.length=shs.length) ∧
  (∀(fuel:Nat),fuel≤F→∀(off:Nat) (fs:List Field) (cs:List Value) (shs:List Sh),e5f P ρ n off fs=some shs→(∀f∈fs,∃x,DataW.trod enc P w base sp held fuel f.type ((cs.drop f.offset).take (P.cellsOf f.type))=some x)→∃xs,Reads w off cs shs xs)
 | 0=>⟨fun _ _ _ _ _ _ _ h=>by simp [shT] at h,fun _ _ _ _ _ _ h=>by simp [e5f] at h⟩
 | n + 1 => by
  obtain ⟨ih1,ih2⟩:=c1c hρ n
  refine ⟨fun fuel hF t cs x b shs h ht=>?_,fun fuel hF off fs cs shs h ht=>?_⟩
  ·simp only [shT] at h
   split at h
   ·rename_i hu
    cases h
    obtain ⟨v,rfl,rfl⟩:=DataW.trod_bool hu ht
    exact ⟨[.bool v],⟨⟨⟨v,rfl⟩,trivial⟩,fun i x hx=>(by cases i<;>simp at hx;subst hx;exact .bool v),fun x hx=>by simp at hx;subst hx;exact ⟨rfl,rfl⟩⟩,rfl⟩
   ·rename_i k hu
    cases h
    obtain ⟨v,rfl,rfl,hw⟩:=DataW.trod_int hu ht
    have hr:=e71 hw
    exact ⟨[.int k v],⟨⟨⟨v,rfl,hr⟩,trivial⟩,fun i x hx=>(by cases i<;>simp at hx;subst hx;exact .int k v (a1q.2 hr)),fun x hx=>by simp at hx;subst hx;exact ⟨rfl,rfl⟩⟩,rfl⟩
   ·rename_i hu
    cases h
    obtain ⟨s,rfl,rfl,hs⟩:=DataW.trod_string hu ht
    exact ⟨[.str s.data.toList],⟨⟨⟨_,rfl⟩,trivial⟩,fun i x hx=>(by cases i<;>simp at hx;subst hx;exact .str s hs),fun x hx=>by simp at hx;subst hx;exact ⟨rfl,rfl⟩⟩,rfl⟩
   ·rename_i e hu
    split at h
    ·rename_i R hR
     cases h
     obtain ⟨y,h1,h2⟩:=hρ t R hR fuel hF e cs x hu ht
     exact ⟨[y],h1,h2⟩
    split at h
    ·rename_i b' cs' he
     cases hc:(Nat.beq (P.cellsOf e) cs'.length&&Nat.blt 0 cs'.length&&(b'||Nat.beq cs'.length 1)) with
     | false=>rw [hc] at h;cases h
     | true =>
      rw [hc] at h;cases h
      simp only [wC,wP] at hc
      have hce:=zR hc.1.1
      have hpos:0<cs'.length:=by have:=hc.1.2;simp [Nat.blt] at this;omega
      rcases DataW.trod_slice hu ht with ⟨rfl,_⟩|⟨a,len,cap,elems,rest,m,hfm,rfl,_,_,hl,hm,hel,hall,_⟩
      ·exact ⟨[.sl []],⟨⟨⟨[],rfl,fun y hy=>by cases hy⟩,trivial⟩,fun i x hx=>(by cases i<;>simp at hx;subst hx;exact .nilsl),fun x hx=>by simp at hx;subst hx;exact ⟨rfl,rfl⟩⟩,rfl⟩
      ·obtain ⟨ys,_,h1,h2⟩:=c3f (w:=w) (base:=base) (a:=a) (len:=len) (cap:=cap) (k:=P.cellsOf e) (b:=b') (shs:=cs') (by omega) hce.symm (by rcases hc.2 with h|h;exact .inl h;exact .inr (by rw [hce];exact zR h)) hl hm (fun i hi=>by
        have:=hall i hi
        have hs:elems[i]?=some elems[i]:=zJ (by omega)
        rw [hs] at this
        obtain ⟨cs,h3,h4⟩:=zL.1 this
        obtain ⟨xs,h5,_⟩:=ih1 _ (by omega) _ _ _ _ _ he h4
        exact ⟨cs,xs,h3,h5⟩)
       exact ⟨[.sl ys],⟨⟨h1,trivial⟩,fun i x hx=>(by cases i<;>simp at hx;subst hx;exact h2),fun x hx=>by simp at hx;subst hx;exact ⟨rfl,rfl⟩⟩,rfl⟩
    ·cases h
   ·rename_i fs hu
    split at h
    ·rename_i cs' hf
     cases hc:Nat.beq (P.cellsOf t) cs'.length with
     | false=>rw [hc] at h;cases h
     | true =>
      rw [hc] at h
      simp only [vN,xP,Prod.mk.injEq] at h
      obtain ⟨_,rfl⟩:=h
      obtain ⟨xs,m,hfu,_,hl,hxl,hall⟩:=DataW.trod_struct hu ht
      obtain ⟨ys,hy⟩:=ih2 m (by omega) 0 fs.toList cs cs' hf (fun f hfm=>by
       obtain ⟨i,hi⟩:=zS.1 hfm
       have hi':fs[i]?=some f:=by simpa using hi
       have:=hall i f hi'
       have hlt:i<xs.length:=by rw [hxl];exact (zF.1 hi').1
       rw [zJ hlt] at this
       exact ⟨_,this⟩)
      exact ⟨ys,hy,by rw [hl];exact zR hc⟩
    ·cases h
   ·cases h
  ·cases fs with
   | nil=>simp [e5f] at h;subst h;exact ⟨[],trivial,fun i x hx=>by simp at hx,fun x hx=>by cases hx⟩
   | cons f r =>
    simp only [e5f] at h
    split at h
    ·rename_i b' cs' he
     cases hc:(Nat.beq f.offset off&&Nat.beq (P.cellsOf f.type) cs'.length) with
     | false=>rw [hc] at h;cases h
     | true =>
      rw [hc] at h
      simp only [vN] at h
      simp only [wC] at hc
      have ho:=zR hc.1
      have hce:=zR hc.2
      split at h
      ·rename_i q hq
       cases h
       obtain ⟨x,hx⟩:=ht f (by simp)
       obtain ⟨xs,h1,hxl⟩:=ih1 _ hF _ _ _ _ _ he hx
       obtain ⟨ys,h2⟩:=ih2 fuel hF _ r cs q hq fun f' hf'=>ht f' (by simp [hf'])
       have hlx:=a5t h1.has
       refine ⟨xs++ys,b4t h1.has h2.has,fun i z hz=>?_,fun z hz=>?_⟩
       ·by_cases hi:i<xs.length
        ·rw [zH hi] at hz
         have:=h1.rd i z hz
         rw [w8] at this
         have e1:((cs.drop f.offset).take (P.cellsOf f.type)).getD i undef=cs.getD (off+i) undef:=by
          have hi':i<P.cellsOf f.type:=by omega
          simp [List.getD,xJ,hi',ho]
         rw [e1] at this;exact this
        ·rw [zD (by omega)] at hz
         have:=h2.rd (i - xs.length) z hz
         rw [←hlx] at this
         rw [show off+i=off+xs.length+(i - xs.length) by omega]
         exact this
       ·rcases wJ.1 hz with hz|hz
        ·exact h1.sc z hz
        ·exact h2.sc z hz
      ·cases h
    ·cases h
def f3f (P:Program) (ρ:TypeId→Option (V→Prop)) (n:Nat) (t:TypeId) (R:V→Prop):Prop :=
 ∃e b cs,P.underlying t=some (.slice e)∧shT P ρ n e=some (b,cs)∧(Nat.beq (P.cellsOf e) cs.length&&Nat.blt 0 cs.length&&(b||Nat.beq cs.length 1))=true ∧
  ∀ys:List V,ys.length≤maxLen→(∀y∈ys,bif b then ∃zs,y=.agg zs∧Sh.hasL cs zs else Sh.hasL cs [y])→R (.sl ys)
theorem d6x {ρ:TypeId→Option (V→Prop)} {n:Nat} (hR:∀t R,ρ t=some R→f3f P ρ n t R):∀F,d68 H enc P w base sp held ρ F
 | 0=>fun t R hr fuel hF e cs x hu ht=>by
  have:fuel=0:=by omega
  subst this
  simp [DataW.trod] at ht
 | F+1=>fun t R hr fuel hF e cs x hu ht=>by
  have ih:=d6x hR F
  obtain ⟨e',b',cs',hu',he,hc,hall'⟩:=hR t R hr
  rw [hu] at hu'
  cases hu'
  simp only [wC,wP] at hc
  have hce:=zR hc.1.1
  have hpos:0<cs'.length:=by have:=hc.1.2;simp [Nat.blt] at this;omega
  rcases DataW.trod_slice hu ht with ⟨rfl,_⟩|⟨a,len,cap,elems,rest,m,hfm,rfl,_,_,hl,hm,hel,hall,_⟩
  ·exact ⟨.sl [],⟨⟨hall' [] (vG _) (fun y hy=>by cases hy),trivial⟩,fun i x hx=>(by cases i<;>simp at hx;subst hx;exact .nilsl),fun x hx=>by simp at hx;subst hx;exact ⟨rfl,rfl⟩⟩,rfl⟩
  ·obtain ⟨ys,h0,⟨ys',e1,h1⟩,h2⟩:=c3f (w:=w) (base:=base) (a:=a) (len:=len) (cap:=cap) (k:=P.cellsOf e) (b:=b') (shs:=cs') (by omega) hce.symm (by rcases hc.2 with h|h;exact .inl h;exact .inr (by rw [hce];exact zR h)) hl hm (fun i hi=>by
    have:=hall i hi
    have hs:elems[i]?=some elems[i]:=zJ (by omega)
    rw [hs] at this
    obtain ⟨cs,h3,h4⟩:=zL.1 this
    obtain ⟨xs,h5,_⟩:=(c1c ih n).1 _ (by omega) _ _ _ _ _ he h4
    exact ⟨cs,xs,h3,h5⟩)
   cases e1
   exact ⟨.sl ys,⟨⟨hall' ys (by omega) h1,trivial⟩,fun i x hx=>(by cases i<;>simp at hx;subst hx;exact h2),fun x hx=>by simp at hx;subst hx;exact ⟨rfl,rfl⟩⟩,rfl⟩
end
end Go.Ab
namespace Go.Ab
open Go.RowKit Go.WideShapes
def d61 (s:Bool×List Sh) (x:V):Prop:=bif s.1 then ∃zs,x=.agg zs∧Sh.hasL s.2 zs else Sh.hasL s.2 [x]
def b5a:List (Bool×List Sh)→List V→Prop
 | [],[]=>True
 | s::r,x::q=>d61 s x∧b5a r q
 | _,_=>False
section
variable {H:Type} {enc:TypeId×Value→H} {P:Program} {W:World} {base:Nat}
def gh0 (W:World):Gh:=⟨Old W,id,id,id,fun _=>False⟩
theorem b48 {v:Value} {b:Bool} {shs:List Sh} {xs:List V} (hc:v.cells=#[v]) (h:Reads W 0 v.cells.toList shs xs) (hl:v.cells.toList.length=shs.length):∃y,VR (gh0 W) W v y∧d61 (false,shs) y:=by
 have h1:xs.length=1:=by rw [a5t h.has,←hl,hc];rfl
 match xs,h1,h with
 | [y],_,h =>
  refine ⟨y,.rd ?_,h.has⟩
  have:=h.rd 0 y rfl
  rw [hc] at this
  exact (by simpa using this:Rd (Old W) W v y)
theorem d1l {ρ:TypeId→Option (V→Prop)} (hρ:∀F,d68 H enc P W 0 (fun _=>true) true ρ F) {n:Nat} {t:TypeId} {b:Bool} {shs:List Sh} {v:Value} {d:DataW H} {ps:List MemPlace} (hs:shT P ρ n t=some (b,shs)) (hv:Value.okWide P W .any base t v) (ht:DataW.Trod enc P W 0 (fun _=>true) true t v d ps) :
  ∃y,VR (gh0 W) W v y∧d61 (b,shs) y:=by
 obtain ⟨fuel,ht⟩:=ht
 obtain ⟨xs,h1,h2⟩:=(c1c (enc:=enc) (P:=P) (w:=W) (base:=0) (sp:=fun _=>true) (held:=true) (hρ fuel) n).1 fuel (vI _) t _ _ _ _ hs ht
 cases n with
 | zero=>simp [shT] at hs
 | succ n =>
  simp only [shT] at hs
  split at hs
  ·rename_i hu
   cases hs
   obtain ⟨c,rfl⟩:=okWide_bool hu hv
   exact b48 (b:=false) rfl h1 h2
  ·rename_i k hu
   cases hs
   obtain ⟨c,rfl⟩:=okWide_int hu hv
   exact b48 (b:=false) rfl h1 h2
  ·rename_i hu
   cases hs
   obtain ⟨c,rfl⟩:=okWide_string hu hv
   exact b48 (b:=false) rfl h1 h2
  ·rename_i e hu
   split at hs
   ·cases hs
    obtain ⟨a,len,cap,rfl⟩:=okWide_slice hu hv
    exact b48 (b:=false) rfl h1 h2
   split at hs
   ·cases hc:(Nat.beq (P.cellsOf e) _&&Nat.blt 0 _&&(_||Nat.beq _ 1)) with
    | false=>rw [hc] at hs;cases hs
    | true =>
     rw [hc] at hs;cases hs
     obtain ⟨a,len,cap,rfl⟩:=okWide_slice hu hv
     exact b48 (b:=false) rfl h1 h2
   ·cases hs
  ·rename_i fs hu
   split at hs
   ·rename_i cs' hf
    cases hc:Nat.beq (P.cellsOf t) cs'.length with
    | false=>rw [hc] at hs;cases hs
    | true =>
     rw [hc] at hs
     simp only [vN,xP,Prod.mk.injEq] at hs
     obtain ⟨rfl,rfl⟩:=hs
     obtain ⟨cs,rfl,_⟩:=okWide_struct hu hv
     refine ⟨.agg xs,.rd (.agg cs xs ?_ fun i c hc=>?_),⟨xs,rfl,h1.has⟩⟩
     ·have:=a5t h1.has
      have h2':cs.size=cs'.length:=by simpa [Value.cells] using h2
      omega
     ·have:=h1.rd i c hc
      exact (by simpa [Value.cells,zC,List.getD] using this:Rd (Old W) W (cs.getD i undef) c)
   ·cases hs
  ·cases hs
theorem b6z {ρ:TypeId→Option (V→Prop)} (hρ:∀F,d68 H enc P W 0 (fun _=>true) true ρ F) {n:Nat}:∀{ts:List TypeId} {shs:List (Bool×List Sh)} {vs:List Value} {ds:List (DataW H)} {ps:List MemPlace},ts.map (shT P ρ n)=shs.map some→(∀(j:Nat) t v,ts[j]?=some t→vs[j]?=some v→Value.okWide P W .any base t v) →
  DataW.TrodAll enc P W 0 (fun _=>true) true ts vs ds ps→∃ys,ys.length=vs.length∧b5a shs ys∧∀(i:Nat) (y:V),ys[i]?=some y→VR (gh0 W) W (vs.getD i undef) y
 | [],shs,[],[],ps,hs,_,_=>by
  cases shs with
  | nil=>exact ⟨[],rfl,trivial,fun i y h=>by simp at h⟩
  | cons _ _=>simp at hs
 | t::ts,shs,v::vs,d::ds,ps,hs,hv,h=>by
  cases shs with
  | nil=>simp at hs
  | cons s shs =>
   simp only [wW,wN] at hs
   obtain ⟨p,q,h1,h2,_⟩:=h
   obtain ⟨b,sh⟩:=s
   obtain ⟨y,k1,k2⟩:=d1l hρ hs.1 (hv 0 t v rfl rfl) h1
   obtain ⟨ys,k3,k4,k5⟩:=b6z hρ hs.2 (fun j t v h1 h2=>hv (j+1) t v (by simpa using h1) (by simpa using h2)) h2
   refine ⟨y::ys,by simp [k3],⟨k2,k4⟩,fun i z hz=>?_⟩
   cases i with
   | zero=>simp at hz;subst hz;simpa using k1
   | succ i=>simp at hz;simpa using k5 i z hz
 | [],_,_::_,_,_,_,_,h=>h.elim
 | [],_,[],_::_,_,_,_,h=>h.elim
 | _::_,_,[],_,_,_,_,h=>h.elim
 | _::_,_,_::_,[],_,_,_,h=>h.elim
theorem b3x {w:World} {sp:Nat→Bool} {held:Bool}:∀{ts:List TypeId} {vs:List Value} {ds:List (DataW H)} {ps:List MemPlace},DataW.TrodAll enc P w base sp held ts vs ds ps→ds.length=ts.length∧vs.length=ts.length
 | [],[],[],_,_=>⟨rfl,rfl⟩
 | t::ts,v::vs,d::ds,ps,h=>by
  obtain ⟨p,q,_,h2,_⟩:=h
  have:=b3x h2
  simp [this.1,this.2]
 | [],_::_,_,_,h=>h.elim
 | [],[],_::_,_,h=>h.elim
 | _::_,[],_,_,h=>h.elim
 | _::_,_::_,[],_,h=>h.elim
theorem a9r {W':World} {sp:Nat→Bool} (hl:laidOutB P=true):∀{ts:List TypeId} {vs:List Value} {ds:List (DataW H)} {ps:List MemPlace},(∀t∈ts,P.readableRec t=true∧t<P.types.size)→(∀p∈ps,W.sameAt W' p∧sp p.block=true) →
  DataW.TrodAll enc P W base (fun _=>true) true ts vs ds ps→DataW.TrodAll enc P W' base sp true ts vs ds ps
 | [],[],[],_,_,_,h=>h
 | t::ts,v::vs,d::ds,ps,ht,hp,h=>by
  obtain ⟨p,q,h1,h2,rfl⟩:=h
  exact ⟨p,q,WideElems.Trod_stays hl (ht t (by simp)).1 (ht t (by simp)).2 h1 (fun x hx=>(hp x (by simp [hx])).1) (fun x hx=>(hp x (by simp [hx])).2),
   a9r hl (fun t' h'=>ht t' (by simp [h'])) (fun x hx=>hp x (by simp [hx])) h2,rfl⟩
 | [],_::_,_,_,_,_,h=>h.elim
 | [],[],_::_,_,_,_,h=>h.elim
 | _::_,[],_,_,_,_,h=>h.elim
 | _::_,_::_,[],_,_,_,h=>h.elim
theorem c9r {ρ:TypeId→Option (V→Prop)} {nr:Nat} (hR:∀t R,ρ t=some R→f3f P ρ nr t R) {f:Nat} {fn:Func} {s:ChangeSpec} {n:Nat} {shs:List (Bool×List Sh)} {tb:TypeId} (hl:laidOutB P=true) (hrd:∀t∈fn.params.toList,P.readableRec t=true∧t<P.types.size) (hsh:fn.params.toList.map (shT P ρ n)=shs.map some)
  (hrt:fn.resultTypes=#[tb]) (hb:P.underlying tb=some .bool) (hvars:s.vars=[]) (hfn:∀ds:List (DataW H),ds.length=fn.params.size→s.fn H ds={ results:=[.lit (.bool true)],args:=ds })
  (hcall:∀ys,b5a shs ys→a0o P f ys [] (fun r H=>r=.bool true∧H=[]))
  {args:Array Value} {ds gs:List (DataW H)} {before:List MemPlace} (hval:∀(j:Nat) t v,fn.params[j]?=some t→args[j]?=some v→Value.okWide P W .any base t v)
  (hW:DataW.Whole enc P fn.params.toList s.vars false W args.toList ds gs before) (htabs:f3e P W) :
  Calls P f args W fun e W'=>∃v,e=.returned v∧s.post enc P fn false true false false W args v W':=by
 have hW0:=hW
 obtain ⟨p,q,hA,hV,rfl,hfz,_⟩:=hW
 rw [hvars] at hV
 have hgs:gs=[]∧q=[]:=by
  cases gs with
  | nil=>exact ⟨rfl,hV⟩
  | cons _ _=>exact hV.elim
 obtain ⟨rfl,rfl⟩:=hgs
 obtain ⟨ys,k1,k2,k3⟩:=b6z (base:=base) (d6x hR) hsh (fun j t v h1 h2=>hval j t v (by simpa using h1) (by simpa using h2)) hA
 have hkeep:∀{w':World},a2d (Old W) W w'→f3e P w':=by
  intro w' hk
  have key:∀(n:String) (cs:Array Value),World.var? P W n=some cs→World.var? P w' n=some cs:=fun n cs h=>by
   unfold World.var? at h ⊢
   cases hgn:P.globalNamed n with
   | none=>rw [hgn] at h;cases h
   | some g =>
    rw [hgn] at h
    simp only [xY] at h ⊢
    have hlt:g<W.heap.size:=by
     cases hh:W.heap[g]? with
     | none=>rw [hh] at h;cases h
     | some o=>exact (zF.1 hh).1
    rw [hk g hlt];exact h
  exact ⟨fun d hd hg=>key _ _ (htabs.1 d hd hg),fun n hn hg=>by
   obtain ⟨tp,p,h⟩:=htabs.2 n hn hg
   exact ⟨tp,p,key _ _ h⟩⟩
 have hH:a3p P (gh0 W) W []:=⟨fun id o h=>(by cases h),fun i j o o' h=>(by cases h),fun id o h=>(by cases h),fun b h=>h,fun w' hk=>hkeep hk⟩
 refine ((hcall ys k2).2 (gh0 W) W args hH (by rw [k1];simp) fun i x hx=>?_).mono ?_
 ·have:=k3 i x hx
  simpa [zC,List.getD] using this
 ·rintro e W' ⟨v,r,H',g',rfl,⟨rfl,rfl⟩,_,hv,hf,_⟩
  have hold:∀b,b<W.heap.size→W'.heap[b]?=W.heap[b]?:=fun b hb=>hf.old b hb fun ⟨id,o,h,_⟩=>by cases h
  have hvt:=hv.bool_inv
  subst hvt
  obtain ⟨hdl,hvl⟩:=b3x hA
  have hlt:∀x∈p++[],x.block<W.heap.size:=fun x hx=>hW0.lt x hx
  have hfnds:=hfn ds (by rw [hdl];simp)
  refine ⟨_,rfl,ds,[],p++[],[],p,[],hW0,?_,?_,?_,?_,fun h=>by cases h⟩
  ·rw [wO,hfnds,hrt]
   exact ⟨[],[],⟨1,by simp [DataW.trod,hb,Value.cells]⟩,rfl,rfl⟩
  ·rw [wO,hfnds]
   refine a9r hl hrd (fun x hx=>⟨?_,by simpa using hlt x (by simp [hx])⟩) hA
   have:=hold x.block (hlt x (by simp [hx]))
   cases x with
   | cell b off=>simp only [MemPlace.block] at this;simp [World.sameAt,World.cell?,this]
   | map b=>exact this
  ·rw [hvars,wO,hfnds];rfl
  ·refine ⟨hf.os,hf.output,fun i hi=>?_⟩
   rw [hold i hi]
   cases W.heap[i]? with
   | none=>rfl
   | some o=>cases o<;>first|rfl|exact ⟨rfl,rfl,rfl,fun _ _=>rfl⟩|exact .inr ⟨rfl,rfl⟩
theorem c43 {name:String} {d:DataW Unit}:∀{l:List (String×DataW Unit)} {ps:List MemPlace},DataW.LaidVars P W l ps→(name,d)∈l →
  ∃g t cs fuel p,P.globalNamed name=some g∧(P.globals[g]?).map (·.type)=some t∧W.var? P name=some cs∧DataW.trod (fun _=>()) P W 0 (fun _=>true) false fuel t cs.toList=some (d,p)
 | (n,d')::r,ps,h,hm=>by
  obtain ⟨g,t,cs,fuel,p,q,h1,h2,h3,h4,h5,_⟩:=h
  rcases wV.1 hm with e|hm
  ·cases e;exact ⟨g,t,cs,fuel,p,h1,h2,h3,h4⟩
  ·exact c43 h5 hm
theorem c50 {name:String} {k:IntKind} {zs:List Int} {l:List (String×DataW Unit)} {g:Nat} {t e:TypeId} {n:Nat} (hm:(name,Lib.tabData k zs)∈l)
  (hg:P.globalNamed name=some g) (hty:(P.globals[g]?).map (·.type)=some t) (ht:P.underlying t=some (.array n e)) (he:P.underlying e=some (.int k)) (hce:P.cellsOf e=1) (hct:P.cellsOf t=n) (h:laidMet P l W):Lib.TabIs P W name k zs:=by
 obtain ⟨ps,hl,_⟩:=h
 obtain ⟨g',t',cs,fuel,p,hg',ht',hvar,hd⟩:=c43 hl hm
 obtain rfl:=wF (hg.symm.trans hg')
 obtain rfl:=wF (hty.symm.trans ht')
 unfold Lib.TabIs
 rw [hvar,←Lib.cells_of_tab ht he hce hct hd]
theorem b85 {n nm:String} {text:List UInt8} {g:Nat} {ti tp te ts:TypeId} {ms:Array (String×TypeId)} {f:Field}
  (hg:P.globalNamed n=some g) (ht:(P.globals[g]?).map (·.type)=some ti) (hi:P.underlying ti=some (.interface ms)) (hrow:∀u,P.typeName? 3 u=some nm→u=tp)
  (hp:P.underlying tp=some (.pointer te)) (he:P.underlying te=some (.struct #[f])) (hft:f.type=ts) (hfo:f.offset=0) (hs:P.underlying ts=some .string) (hc:P.cellsOf te=1) (hcs:P.cellsOf ts=1) :
  ∀{l:List (String×DataW Unit)} (k:Nat),l[k]?=some (n,.iface nm (.ptr (.agg [.lit (.string text)])))→laidMet P l W→∃tp p,World.var? P W n=some #[.iface tp p]
 | [],_,e,_=>by cases e
 | x::r,0,e,h=>by
  obtain rfl:=wF e
  obtain ⟨a,s,hv,_⟩:=laid_sentinel h hg ht hi hrow hp he hft hfo hs hc hcs
  exact ⟨tp,_,hv⟩
 | x::r,k+1,e,h=>b85 hg ht hi hrow hp he hft hfo hs hc hcs (l:=r) k (by simpa using e) h.tail
theorem c9i {α:Type} {f:α→V}:∀{ys:List V},(∀y∈ys,∃a,y=f a)→∃l:List α,ys=l.map f
 | [],_=>⟨[],rfl⟩
 | y::r,h=>by
  obtain ⟨a,rfl⟩:=h y (by simp)
  obtain ⟨l,rfl⟩:=c9i (ys:=r) fun z hz=>h z (by simp [hz])
  exact ⟨a::l,rfl⟩
theorem a9j {s:Bool×List Sh} {r:List (Bool×List Sh)} {ys:List V} (h:b5a (s::r) ys):∃x q,ys=x::q∧d61 s x∧b5a r q:=by
 cases ys with
 | nil=>exact h.elim
 | cons x q=>exact ⟨x,q,rfl,h.1,h.2⟩
theorem c6r {ys:List V} (h:b5a [] ys):ys=[]:=by
 cases ys with
 | nil=>rfl
 | cons x q=>exact h.elim
end
end Go.Ab
namespace Go.Ab
open Go.RowKit
section
variable {P:Program}
theorem b5e {f:Nat} {args:List V} {xs ys:List V} {r:V} (hc:callable P f=true) (he:∀x∈ys,x.cells.length=1∧(∀c∈x.cells,c.one=true)∧x.sealed=true) (hl:ys.length=xs.length)
  (h : ∀(g:Gh) w (vals:Array Value),a3p P g w [(1000,.arr 1 xs)]→vals.size=args.length→(∀(i:Nat) (x:V),args[i]?=some x→VR g w (vals.getD i undef) x) →
   Calls P f vals w fun en w'=>∃v,en=.returned v∧VR g w' v r∧w'.os=w.os∧w'.tape=w.tape∧w'.output=w.output∧w.heap.size≤w'.heap.size∧(∀b,b<w.heap.size→(b≠g.ρ 1000∨g.nil 1000)→w'.heap[b]?=w.heap[b]?) ∧
    (g.nil 1000→ys=[])∧(¬g.nil 1000→∀cur e fz,w.heap[g.ρ 1000]?=some (.cells cur e fz)→∃cur':Array Value,w'.heap[g.ρ 1000]?=some (.cells cur' e fz)∧cur'.size=cur.size ∧
     ∀(i:Nat) (x c:V),ys[i]?=some x→x.cells[0]?=some c→Rd g.S w' (cur'.getD (g.base 1000+i) undef) c)) :
  a0o P f args [(1000,.arr 1 xs)] (fun r' H'=>r'=r∧H'=[(1000,.arr 1 ys)]):=by
 refine a1y ⟨r,[],[(1000,.arr 1 ys)]⟩ hc fun g w vals hH hsz hv=>(h g w vals hH hsz hv).mono ?_
 rintro en w' ⟨v,rfl,hvr,h1,h2,h3,h4,h5,h6,h7⟩
 have hf:find 1000 [(1000,a0g.arr 1 xs)]=some (.arr 1 xs):=by simp [find]
 have hO:=hH.obj 1000 _ hf
 refine ⟨v,g,rfl,⟨h1,h2,h3,h4,fun b hb hb'=>h5 b hb ?_,fun _ h=>h,fun b hb=>.inl hb,fun b hb=>xF (hH.lt b hb) h4,fun id _=>Gh.agree.refl _ _,?_,?_,?_,?_⟩,?_,hvr⟩
 ·by_cases hn:g.nil 1000
  ·exact .inr hn
  ·exact .inl fun e=>hb' 1000 _ (by simp [Eff.ids]) hf hn e.symm
 ·intro id o ho
  simp at ho
  obtain ⟨rfl,rfl⟩:=ho
  rcases hO with ⟨hn,_⟩|⟨hn,ha⟩
  ·exact .inl ⟨hn,h6 hn⟩
  ·obtain ⟨cur,e,fz,k1,k2,k3,k4⟩:=ha.row
   obtain ⟨cur',q1,q2,q3⟩:=h7 hn cur e fz k1
   refine .inr ⟨hn,⟨ha.kpos,⟨cur',e,fz,q1,by rw [q2];exact k2,by rw [q2];exact k3,fun i j x c hi hj=>?_⟩,by rw [hl];exact ha.len,ha.big,he⟩⟩
   have hx:=he x (z7 hi)
   have hj0:j=0:=by
    have:=(zG.1 hj).1
    omega
   subst hj0
   simpa using q3 i x c hi hj
 ·intro id o ho hn
  simp at ho
  obtain ⟨rfl,rfl⟩:=ho
  exact .inr ⟨_,_,by simp [Eff.ids],hf,hn,rfl⟩
 ·intro i j o o' hi hj
  simp at hi hj
  intro _ _ _
  rw [hi.1,hj.1]
 ·intro id o ho hn hS
  simp at ho
  obtain ⟨rfl,rfl⟩:=ho
  exact hH.sep _ _ hf hn hS
 ·intro id o ho
  exact .inl (Gh.agree.refl _ _)
theorem b9l {zs:List Int}:∀x∈zs.map (V.int .i64),x.cells.length=1∧(∀c∈x.cells,c.one=true)∧x.sealed=true:=by
 intro x hx
 obtain ⟨z,_,rfl⟩:=vD.1 hx
 exact ⟨rfl,fun c hc=>by simp [V.cells] at hc;subst hc;rfl,rfl⟩
theorem c3p {g:Gh} {w:World} {xs:List Int} (hO:OR g w 1000 (.arr 1 (xs.map (V.int .i64)))) (hn:¬g.nil 1000) :
  ∃(cur:Array Value) (e:TypeId) (fz:Nat×Nat),w.heap[g.ρ 1000]?=some (.cells cur e fz)∧g.base 1000+xs.length≤cur.size∧a3n fz cur.size∧(∀j,j<xs.length→cur[g.base 1000+j]?=some (.int .i64 (xs.getD j 0)))∧∀x∈xs,inR .i64 x:=by
 rcases hO with ⟨h,_⟩|⟨_,ha⟩
 ·exact absurd h hn
 obtain ⟨cur,e,fz,k1,k2,k3,k4⟩:=ha.row
 have hlen:g.base 1000+xs.length≤cur.size:=by
  have:=ha.len
  simp at this
  rw [k2];omega
 have hrd:∀j,(hj:j<xs.length)→cur.getD (g.base 1000+j) undef=.int .i64 xs[j]∧inR .i64 xs[j]:=fun j hj=>by
  have:=k4 j 0 (.int .i64 xs[j]) (.int .i64 xs[j]) (by simp [hj]) rfl
  have h2:Rd g.S w (cur.getD (g.base 1000+j) undef) (.int .i64 xs[j]):=by simpa using this
  exact (VR.rd (g:=g) h2).int_inv
 refine ⟨cur,e,fz,k1,hlen,k3.1,fun j hj=>?_,fun x hx=>?_⟩
 ·have:=(hrd j hj).1
  have hlt:g.base 1000+j<cur.size:=by omega
  rw [zC,zI hlt] at this
  rw [zI hlt]
  simp at this
  simp [this,hj]
 ·obtain ⟨j,hj,rfl⟩:=List.getElem_of_mem hx
  exact (hrd j hj).2
open Go.Shelf in
theorem c30 {f:Nat} (hc:callable P f=true)
  (h1:∀(blk off cap:Nat) (zs:List Int) (w:World),Go.Sort.Holds (Value.int .i64) w blk off zs.toArray→blk<w.heap.size→zs.length<4611686018427387904 →
   Calls P f #[.slice (some ⟨blk,off,none⟩) zs.length cap] w fun e w'=>e=.returned (.tuple #[])∧∃n os,w'=Go.Sort.grow (Go.Sort.putRow (Value.int .i64) (Go.Sort.ahead w n) blk off (zs.mergeSort fun x y=>decide (x≤y)).toArray) os)
  (h2:∀(p:Option Addr) (cap:Nat) (w:World),Calls P f #[.slice p 0 cap] w fun e w'=>e=.returned (.tuple #[])∧w'=w) (xs:List Int) (hb:xs.length<4611686018427387904) :
  a0o P f [.osl 1000 1 0 xs.length] [(1000,.arr 1 (xs.map (V.int .i64)))] (fun r H'=>r=.tup []∧H'=[(1000,.arr 1 ((xs.mergeSort fun x y=>decide (x≤y)).map (V.int .i64)))]):=by
 refine b5e hc b9l (by simp) fun g w vals hH hsz hv=>?_
 have hf:find 1000 [(1000,a0g.arr 1 (xs.map (V.int .i64)))]=some (.arr 1 (xs.map (V.int .i64))):=by simp [find]
 have hO:=hH.obj 1000 _ hf
 have hv0:=hv 0 _ rfl
 have hval:vals=#[vals.getD 0 undef]:=by
  have:vals.size=1:=hsz
  apply Array.ext
  ·simp [this]
  ·intro i h1 h2
   have:i=0:=by omega
   subst this
   simp only [List.getElem_toArray,List.getElem_cons_zero]
   rw [zC,zI h1,xX]
 rw [hval]
 by_cases h0:xs=[]
 ·subst h0
  have:∃p cap,vals.getD 0 undef=.slice p 0 cap:=by
   rcases hv0.osl_inv with ⟨_,e,_⟩|⟨_,o,c,e,_⟩
   ·exact ⟨none,0,e⟩
   ·exact ⟨_,c,e⟩
  obtain ⟨p,cap,e⟩:=this
  rw [e]
  refine (h2 p cap w).mono ?_
  rintro en w' ⟨rfl,rfl⟩
  refine ⟨_,rfl,.tup _ _ rfl fun i x hx=>by simp at hx,rfl,rfl,rfl,vI _,fun _ _ _=>rfl,fun _=>by simp,fun hn cur e fz hh=>⟨cur,hh,rfl,fun i x c hi=>by simp at hi⟩⟩
 ·have hlen:0<xs.length:=List.length_pos_iff.2 h0
  rcases hv0.osl_inv with ⟨_,_,e⟩|⟨hn,o,cc,ev,ho,_,hlc,_⟩
  ·omega
  have ho':o=g.base 1000:=by
   rcases ho with h|h
   ·omega
   ·simpa using h
  subst ho'
  rw [ev]
  obtain ⟨cur,e,fz,k1,k2,k3,k4,k5⟩:=c3p hO hn
  have hHo:Go.Sort.Holds (Value.int .i64) w (g.ρ 1000) (g.base 1000) xs.toArray:=fun j hj=>by
   have hj':j<xs.length:=by simpa using hj
   refine ⟨?_,?_⟩
   ·simp only [World.cell?,k1]
    rw [k4 j hj']
    simp [hj']
   ·simp only [World.frozen?,k1]
    exact k3.at (by omega)
  refine (h1 _ _ cc xs w hHo (hO.block hn) hb).mono ?_
  rintro en w' ⟨rfl,n,os,rfl⟩
  have hblk:=hO.block hn
  refine ⟨_,rfl,.tup _ _ rfl fun i x hx=>by simp at hx,rfl,rfl,rfl,by simp [Go.Sort.grow,Go.Sort.ahead],fun b hb hne=>?_,fun h=>absurd h hn,fun _ cur0 e0 fz0 hh=>?_⟩
  ·have hne':b≠g.ρ 1000:=hne.resolve_right hn
   rw [Go.Sort.heap_grow_old _ _ (by simpa [Go.Sort.ahead] using hb)]
   simp [Go.Sort.putRow,Go.Sort.mapBlock,zW,hne'.symm,Go.Sort.ahead]
  ·rw [k1] at hh;cases hh
   refine ⟨Go.Sort.putCells (Value.int .i64) (g.base 1000) (xs.mergeSort fun x y=>decide (x≤y)).toArray cur,?_,by simp [Go.Sort.putCells],fun i x c hi hcx=>?_⟩
   ·rw [Go.Sort.heap_grow_old _ _ (by simpa [Go.Sort.ahead] using hblk)]
    simp [Go.Sort.putRow,Go.Sort.mapBlock,zW,Go.Sort.ahead,k1,Go.Sort.onCells]
   ·have hi':i<(xs.mergeSort fun x y=>decide (x≤y)).length:=by
     have:=(zG.1 hi).1
     simpa using this
    have hx:x=.int .i64 ((xs.mergeSort fun x y=>decide (x≤y))[i]):=by
     have:=(zG.1 hi).2
     simpa using this.symm
    subst hx
    simp [V.cells] at hcx
    subst hcx
    have hi2:i<xs.length:=by simpa using hi'
    have hlt:g.base 1000+i<cur.size:=by omega
    have hm:(xs.mergeSort fun x y=>decide (x≤y))[i]∈xs:=(List.mem_mergeSort).1 (x6 hi')
    have:(Go.Sort.putCells (Value.int .i64) (g.base 1000) (xs.mergeSort fun x y=>decide (x≤y)).toArray cur).getD (g.base 1000+i) undef=.int .i64 ((xs.mergeSort fun x y=>decide (x≤y))[i]):=by
     rw [zC]
     simp [Go.Sort.putCells,Array.getElem?_mapIdx,hlt,hi',hi2]
    rw [this]
    exact .int _ _ (k5 _ hm)
theorem a92 {b:Nat} {e:TypeId} {fz:Nat×Nat}:∀(vs:List Value) (o:Nat) (w:World) (cur:Array Value),w.heap[b]?=some (.cells cur e fz)→o+vs.length≤cur.size →
  (w.setCells b o vs).os=w.os∧(w.setCells b o vs).tape=w.tape∧(w.setCells b o vs).output=w.output∧(w.setCells b o vs).heap.size=w.heap.size∧(∀k,k≠b→(w.setCells b o vs).heap[k]?=w.heap[k]?) ∧
  ∃cur':Array Value,(w.setCells b o vs).heap[b]?=some (.cells cur' e fz)∧cur'.size=cur.size∧(∀j v,vs[j]?=some v→cur'[o+j]?=some v)∧∀j,j<o→cur'[j]?=cur[j]?
 | [],o,w,cur,h,_=>⟨rfl,rfl,rfl,rfl,fun _ _=>rfl,cur,h,rfl,fun j v hv=>by simp at hv,fun _ _=>rfl⟩
 | v::vs,o,w,cur,h,hl=>by
  have hl':o+(vs.length+1)≤cur.size:=by simpa using hl
  have h1:(w.setCell ⟨b,o,none⟩ v).heap[b]?=some (.cells (cur.setIfInBounds o v) e fz):=by
   rw [Go.Sort.setCell_eq]
   simp [Go.Sort.mapBlock,zW,h,Go.Sort.onCells]
  obtain ⟨k1,k2,k3,k4,k5,cur',k6,k7,k8,k9⟩:=a92 vs (o+1) (w.setCell ⟨b,o,none⟩ v) _ h1 (by simp;omega)
  refine ⟨k1,k2,k3,k4.trans (by rw [Go.Sort.setCell_eq];simp [Go.Sort.mapBlock]),fun k hk=>(k5 k hk).trans (by rw [Go.Sort.setCell_eq];simp [Go.Sort.mapBlock,zW,Ne.symm hk]),cur',k6,by simpa using k7,fun j u hu=>?_,fun j hj=>?_⟩
  ·cases j with
   | zero =>
    simp at hu;subst hu
    rw [vC,k9 o (by omega)]
    have:o<cur.size:=by omega
    simp [this]
   | succ j =>
    have:=k8 j u (by simpa using hu)
    rw [←this];congr 1;omega
  ·rw [k9 j (by omega),zA (by omega)]
theorem b5u {f:Nat} (hc:callable P f=true)
  (h1:∀(b off n c:Nat) (zs:List Int) (w:World),n≤zs.length→n≤9223372036854775807→n≤c→(∀j,j<zs.length→w.cell? ⟨b,off+j,none⟩=some (.int .i64 (zs.getD j 0)))→(∀j,j<n→w.frozen? ⟨b,off+j,none⟩=false) →
   Calls P f #[.slice (some ⟨b,off,none⟩) n c] w fun e w'=>e=.returned (.slice (some ⟨b,off,none⟩) (Go.Lib.compact (zs.take n)).length c)∧∃q,w'=(w.drewN q).setCells b off ((Go.Lib.compact (zs.take n)++List.replicate (n - (Go.Lib.compact (zs.take n)).length) 0).map (Value.int .i64)))
  (h2:∀(p:Option Addr) (cap:Nat) (w:World),Calls P f #[.slice p 0 cap] w fun e w'=>e=.returned (.slice p 0 cap)∧w'=w) (xs:List Int)
  (hle:(Go.Lib.compact xs).length≤xs.length) (hmem:∀x∈Go.Lib.compact xs,x∈xs) :
  a0o P f [.osl 1000 1 0 xs.length] [(1000,.arr 1 (xs.map (V.int .i64)))] (fun r H'=>r=.osl 1000 1 0 (Go.Lib.compact xs).length ∧
   H'=[(1000,.arr 1 ((Go.Lib.compact xs++List.replicate (xs.length - (Go.Lib.compact xs).length) 0).map (V.int .i64)))]):=by
 refine b5e hc b9l (by simp;omega) fun g w vals hH hsz hv=>?_
 have hf:find 1000 [(1000,a0g.arr 1 (xs.map (V.int .i64)))]=some (.arr 1 (xs.map (V.int .i64))):=by simp [find]
 have hO:=hH.obj 1000 _ hf
 have hv0:=hv 0 _ rfl
 have hval:vals=#[vals.getD 0 undef]:=by
  have:vals.size=1:=hsz
  apply Array.ext
  ·simp [this]
  ·intro i h1 h2
   have:i=0:=by omega
   subst this
   simp only [List.getElem_toArray,List.getElem_cons_zero]
   rw [zC,zI h1,xX]
 rw [hval]
 by_cases h0:xs=[]
 ·subst h0
  have hc0:Go.Lib.compact ([]:List Int)=[]:=zM.1 (by simpa using hle)
  have:∃p cap,vals.getD 0 undef=.slice p 0 cap:=by
   rcases hv0.osl_inv with ⟨_,e,_⟩|⟨_,o,c,e,_⟩
   ·exact ⟨none,0,e⟩
   ·exact ⟨_,c,e⟩
  obtain ⟨p,cap,e⟩:=this
  have hv0':=hv0
  rw [e] at hv0'
  rw [e]
  refine (h2 p cap w).mono ?_
  rintro en w' ⟨rfl,rfl⟩
  refine ⟨_,rfl,by rw [hc0];exact hv0',rfl,rfl,rfl,vI _,fun _ _ _=>rfl,fun _=>by simp [hc0],fun hn cur e fz hh=>⟨cur,hh,rfl,fun i x c hi=>by simp [hc0] at hi⟩⟩
 ·have hlen:0<xs.length:=List.length_pos_iff.2 h0
  rcases hv0.osl_inv with ⟨_,_,e⟩|⟨hn,o,cc,ev,ho,hcap,hlc,hmx⟩
  ·omega
  have ho':o=g.base 1000:=by
   rcases ho with h|h
   ·omega
   ·simpa using h
  subst ho'
  rw [ev]
  obtain ⟨cur,e,fz,k1,k2,k3,k4,k5⟩:=c3p hO hn
  refine (h1 _ _ xs.length cc xs w (vI _) (by unfold maxLen at hmx;omega) hlc (fun j hj=>?_) (fun j hj=>?_)).mono ?_
  ·simp only [World.cell?,k1]
   exact k4 j hj
  ·simp only [World.frozen?,k1]
   exact k3.at (by omega)
  rintro en w' ⟨rfl,q,rfl⟩
  rw [xZ]
  obtain ⟨q1,q2,q3,q4,q5,cur',q6,q7,q8,_⟩:=a92 (b:=g.ρ 1000) ((Go.Lib.compact xs++List.replicate (xs.length - (Go.Lib.compact xs).length) 0).map (Value.int .i64)) (g.base 1000) (w.drewN q) cur (by exact k1) (by simp;omega)
  refine ⟨_,rfl,.osl 1000 1 0 _ _ cc hn (.inr (by simp)) hcap (by omega) hmx,q1,q2,q3,Nat.le_of_eq q4.symm,fun b hb hne=>q5 b (hne.resolve_right hn),fun h=>absurd h hn,fun _ cur0 e0 fz0 hh=>?_⟩
  rw [k1] at hh;cases hh
  refine ⟨cur',q6,q7,fun i x c hi hcx=>?_⟩
  rw [xR] at hi
  cases hz:(Go.Lib.compact xs++List.replicate (xs.length - (Go.Lib.compact xs).length) 0)[i]? with
  | none=>rw [hz] at hi;cases hi
  | some z =>
   rw [hz] at hi;cases hi
   simp [V.cells] at hcx
   subst hcx
   have:=q8 i (.int .i64 z) (by rw [xR,hz];rfl)
   rw [zC,this]
   refine .int _ _ ?_
   rcases wJ.1 (z7 hz) with h|h
   ·exact k5 z (hmem z h)
   ·rw [(List.mem_replicate.1 h).2];simp [inR,IntKind.min,IntKind.max,IntKind.signed,IntKind.bits]
theorem b6p (xs:List Int):(Go.Lib.compact xs).length≤xs.length:=by
 simp only [Go.Lib.compact,Go.Lib.compactUpTo,wL]
 exact vA (List.length_filter_le _ _) (by simp)
theorem b56 (xs:List Int):∀x∈Go.Lib.compact xs,x∈xs:=by
 intro x hx
 simp only [Go.Lib.compact,Go.Lib.compactUpTo,vD,wI,List.mem_range] at hx
 obtain ⟨i,⟨hi,_⟩,rfl⟩:=hx
 simp [hi]
def b40 (xs:List Int):Option (List Int):=if xs.length<4611686018427387904 then some (xs.mergeSort fun x y=>decide (x≤y)) else none
def a5u (xs:List Int):Option (Nat×List Int):=some ((Go.Lib.compact xs).length,Go.Lib.compact xs++List.replicate (xs.length - (Go.Lib.compact xs).length) 0)
theorem c0s {f:Nat} (hc:callable P f=true)
  (h1:∀(blk off cap:Nat) (zs:List Int) (w:World),Go.Sort.Holds (Value.int .i64) w blk off zs.toArray→blk<w.heap.size→zs.length<4611686018427387904 →
   Calls P f #[.slice (some ⟨blk,off,none⟩) zs.length cap] w fun e w'=>e=.returned (.tuple #[])∧∃n os,w'=Go.Sort.grow (Go.Sort.putRow (Value.int .i64) (Go.Sort.ahead w n) blk off (zs.mergeSort fun x y=>decide (x≤y)).toArray) os)
  (h2:∀(p:Option Addr) (cap:Nat) (w:World),Calls P f #[.slice p 0 cap] w fun e w'=>e=.returned (.tuple #[])∧w'=w) {xs ys:List Int} (hy:b40 xs=some ys) :
  a0o P f [.osl 1000 1 0 xs.length] [(1000,.arr 1 (xs.map (V.int .i64)))] (fun r H'=>r=.tup []∧H'=[(1000,.arr 1 (ys.map (V.int .i64)))]):=by
 unfold b40 at hy
 split at hy
 ·cases hy;exact c30 hc h1 h2 xs (by assumption)
 ·cases hy
theorem b5f {f:Nat} (hc:callable P f=true)
  (h1:∀(b off n c:Nat) (zs:List Int) (w:World),n≤zs.length→n≤9223372036854775807→n≤c→(∀j,j<zs.length→w.cell? ⟨b,off+j,none⟩=some (.int .i64 (zs.getD j 0)))→(∀j,j<n→w.frozen? ⟨b,off+j,none⟩=false) →
   Calls P f #[.slice (some ⟨b,off,none⟩) n c] w fun e w'=>e=.returned (.slice (some ⟨b,off,none⟩) (Go.Lib.compact (zs.take n)).length c)∧∃q,w'=(w.drewN q).setCells b off ((Go.Lib.compact (zs.take n)++List.replicate (n - (Go.Lib.compact (zs.take n)).length) 0).map (Value.int .i64)))
  (h2:∀(p:Option Addr) (cap:Nat) (w:World),Calls P f #[.slice p 0 cap] w fun e w'=>e=.returned (.slice p 0 cap)∧w'=w) {xs:List Int} {y:Nat×List Int} (hy:a5u xs=some y) :
  a0o P f [.osl 1000 1 0 xs.length] [(1000,.arr 1 (xs.map (V.int .i64)))] (fun r H'=>r=.osl 1000 1 0 y.1∧H'=[(1000,.arr 1 (y.2.map (V.int .i64)))]):=by
 cases hy
 exact b5u hc h1 h2 xs (b6p xs) (b56 xs)
theorem b8t {xs ys:List Int} (hy:b40 xs=some ys):ys.length=xs.length:=by
 unfold b40 at hy
 split at hy
 ·cases hy;simp
 ·cases hy
theorem b2y {xs:List Int} {y:Nat×List Int} (hy:a5u xs=some y):y.1≤y.2.length∧y.2.length=xs.length:=by
 cases hy
 have:=b6p xs
 simp
 omega
end
end Go.Ab
namespace Go.Ab
open Go.RowKit Go.Deep
theorem c8p {S:Nat→Prop} {w:World} {b:Nat} {t:TypeId} {n:Nat} {f:Nat→Value} {F:Nat→V} (h:w.rowIs b t n f) (hS:S b) (hn:n≤maxLen) (hF:∀i,i<n→Rd S w (f i) (F i)) (hc:∀i,i<n→(F i).cells=[F i]∧(F i).one=true∧(F i).sealed=true) :
  Rd S w (.slice (some ⟨b,0,none⟩) n n) (.sl ((List.range n).map F)):=by
 obtain ⟨c,hb,hsz,hcell⟩:=h
 refine .sl b 0 n n 1 c t (0,0) _ hS hb (by simp) hn (vI _) (.inr (by omega)) (fun x hx=>?_) fun i j x y hi hj=>?_
 ·obtain ⟨i,hi,rfl⟩:=vD.1 hx
  obtain ⟨h1,h2,h3⟩:=hc i (List.mem_range.1 hi)
  refine ⟨by rw [h1];rfl,fun y hy=>?_,h3⟩
  rw [h1] at hy
  simp only [xG] at hy
  subst hy;exact h2
 ·rw [xR] at hi
  cases hr:(List.range n)[i]? with
  | none=>rw [hr] at hi;cases hi
  | some q =>
   rw [hr] at hi
   simp only [wG,xP] at hi
   obtain ⟨hlt,hq⟩:=zG.1 hr
   simp only [List.getElem_range,List.length_range] at hq hlt
   subst hq
   obtain ⟨h1,h2,h3⟩:=hc i hlt
   rw [←hi,h1] at hj
   cases j with
   | succ j=>simp at hj
   | zero =>
    simp at hj
    subst hj
    have e:c.getD (0+i*1+0) undef=f i:=by
     have:=hcell i hlt
     simp [zC,this]
    rw [e];exact hF i hlt
theorem d9n {S:Nat→Prop} {w:World} {b t tb n m:Nat} {bs:Nat→Nat} {Z:Nat→Nat→Bool} (h0:w.rowIs b t n fun j=>.slice (some ⟨bs j,0,none⟩) m m) (h1:∀j,j<n→w.rowIs (bs j) tb m fun i=>.bool (Z j i))
  (hS:S b) (hSs:∀j,j<n→S (bs j)) (hn:n≤maxLen) (hm:m≤maxLen):Rd S w (.slice (some ⟨b,0,none⟩) n n) (.sl ((List.range n).map fun j=>.sl ((List.range m).map fun i=>.bool (Z j i)))) :=
 c8p h0 hS hn (fun j hj=>c8p (h1 j hj) (hSs j hj) hm (fun i _=>.bool _) fun i _=>⟨rfl,rfl,rfl⟩) fun j _=>⟨rfl,rfl,rfl⟩
theorem a9l {P:Program} {f:Nat} {args:List V} {r:V} (hc:callable P f=true)
  (h:∀(g:Gh) w (vals:Array Value),a3p P g w []→vals.size=args.length→(∀(i:Nat) (x:V),args[i]?=some x→VR g w (vals.getD i undef) x) →
   Calls P f vals w fun en w'=>∃v,en=.returned v∧w.Since w.heap.size w'∧Rd (fun b=>g.S b∨(w.heap.size≤b∧b<w'.heap.size)) w' v r):a0o P f args [] (fun r' H'=>r'=r∧H'=[]):=by
 refine a1y ⟨r,[],[]⟩ hc fun g w vals hH hsz hv=>(h g w vals hH hsz hv).mono ?_
 rintro en w' ⟨v,rfl,hs,hr⟩
 refine ⟨v,{ g with S:=fun b=>g.S b∨(w.heap.size≤b∧b<w'.heap.size) },rfl,⟨hs.os,hs.tape,hs.output,hs.size,fun b hb _=>hs.block b hb,fun _ h=>.inl h,fun b hb=>hb.elim .inl fun e=>.inr (.inl e.1),fun b hb=>?_,fun id _=>⟨rfl,rfl,rfl,vO⟩,fun _ _ h=>by simp at h,fun _ _ h=>by simp at h,fun _ _ _ _ h=>by simp at h,fun _ _ h=>by simp at h⟩,fun _ _ h=>by simp at h,.rd hr⟩
 rcases hb with hb|hb
 ·exact xF (hH.lt b hb) hs.size
 ·exact hb.2
end Go.Ab
namespace Go.Ab
open Go.RowKit
section
variable {P:Program}
theorem VR.sl_slice {g:Gh} {w:World} {v:Value} {xs:List V} (h:VR g w v (.sl xs)):(∃a len cap,v=.slice a len cap)∧Rd g.S w v (.sl xs):=by
 cases h with
 | rd h =>
  refine ⟨?_,h⟩
  cases h with
  | nilsl=>exact ⟨_,_,_,rfl⟩
  | slz a cap=>exact ⟨_,_,_,rfl⟩
  | sl g o len cap k cur e fz xs hS hg hl hm hc hb hk hr=>exact ⟨_,_,_,rfl⟩
theorem a96 {f f1:Nat} {ty:TypeId} (hc:callable P f=true)
  (h:∀(a:Option Addr) (len cap:Nat) (w:World),Calls P f #[.slice a len cap] w fun e w'=>e=.returned (.func (.func f1) #[] #[.pointer (some ⟨w.heap.size,0,none⟩)])∧w'=w.alloc (.cells #[.slice a len cap] ty)) (xs:List V) :
  a0o P f [.sl xs] [] (fun r H'=>r=.fn (.func f1) [.eptr (.agg [.sl xs]) 0]∧H'=[]):=by
 refine a1y ⟨.fn (.func f1) [.eptr (.agg [.sl xs]) 0],[],[]⟩ hc fun g w vals hH hsz hv=>?_
 obtain ⟨⟨a,len,cap,e⟩,hrd⟩:=(hv 0 _ rfl).sl_slice
 have hval:vals=#[.slice a len cap]:=by
  have:vals.size=1:=hsz
  apply Array.ext
  ·simp [this]
  ·intro i h1 h2
   have:i=0:=by omega
   subst this
   simp only [List.getElem_toArray,List.getElem_cons_zero]
   rw [←e,zC,zI h1,xX]
 rw [hval]
 rw [e] at hrd
 refine (h a len cap w).mono ?_
 rintro en w' ⟨rfl,rfl⟩
 have hold:∀b,b<w.heap.size→(w.alloc (.cells #[.slice a len cap] ty)).heap[b]?=w.heap[b]?:=fun b hb=>Below.heap_alloc _ _ _ hb
 have hnew:=World.alloc_heap_new w (.cells #[.slice a len cap] ty)
 refine ⟨_,{ g with S:=fun b=>g.S b∨b=w.heap.size },rfl,⟨rfl,rfl,rfl,by simp,fun b hb _=>hold b hb,fun _ h=>.inl h,fun b hb=>hb.elim .inl fun e=>.inr (.inl (by omega)),fun b hb=>?_,fun id _=>Gh.agree.refl _ _,fun _ _ h=>by simp at h,fun _ _ h=>by simp at h,fun _ _ _ _ h=>by simp at h,fun _ _ h=>by simp at h⟩,fun _ _ h=>by simp at h,?_⟩
 ·rcases hb with h|h
  ·have:=hH.lt b h;simp;omega
  ·simp;omega
 ·refine .fn _ _ _ rfl fun i c hi=>?_
  cases i with
  | succ i=>simp at hi
  | zero =>
   simp at hi;subst hi
   have:=VR.eptr (g:={ g with S:=fun b=>g.S b∨b=w.heap.size }) (w:=w.alloc (.cells #[.slice a len cap] ty)) w.heap.size 0 0 #[.slice a len cap] ty (0,0) (.agg [.sl xs]) (.inr rfl) hnew (by simp [V.cells]) (fun j c hj=>?_)
   ·simpa using this
   ·cases j with
    | succ j=>simp [V.cells] at hj
    | zero =>
     simp [V.cells] at hj;subst hj
     simpa using hrd.mono (S':=fun b=>g.S b∨b=w.heap.size) (fun b hS=>hold b (hH.lt b hS)) fun _ h=>.inl h
end
end Go.Ab
namespace Go.Ab
def stp (L:Nat→Nat→Bool) (a b:Nat) (f:Nat→Bool):Nat→Bool:=fun i=>if i=b then f b||(f a&&L a b) else f i
def inn (L:Nat→Nat→Bool) (a:Nat) (f:Nat→Bool):Nat→Nat→Bool
  | 0=>f
  | b+1=>stp L a b (inn L a f b)
def b1i (L:Nat→Nat→Bool) (n:Nat) (f:Nat→Bool):Nat→Nat→Bool
  | 0=>f
  | a+1=>inn L a (b1i L n f a) n
def oul (L:Nat→Nat→Bool) (n:Nat) (f:Nat→Bool):Nat→Nat→Bool
  | 0=>f
  | k+1=>b1i L n (oul L n f k) n
section search
variable {L:Nat→Nat→Bool} {n:Nat}
theorem b79 {a b:Nat} {f:Nat→Bool} {i:Nat} (h:f i=true):stp L a b f i=true:=by
  simp only [stp];split
  · subst_vars;simp [h]
  · exact h
theorem b3k {a:Nat} {f:Nat→Bool} {i:Nat} (h:f i=true):∀b,inn L a f b i=true
  | 0=>h
  | b+1=>b79 (b3k h b)
theorem a6e {f:Nat→Bool} {i:Nat} (h:f i=true):∀a,b1i L n f a i=true
  | 0=>h
  | a+1=>b3k (a6e h a) n
theorem f08 {a:Nat} {f:Nat→Bool} {i b:Nat} (h:inn L a f b i=true):∀c,b≤c→inn L a f c i=true:=by
  intro c hc
  induction c with
  | zero => have:b=0:=by omega
            subst this;exact h
  | succ c ih =>
    by_cases e:b=c+1
    · subst e;exact h
    · exact b79 (ih (by omega))
theorem e03 {f:Nat→Bool} {i b:Nat} (h:b1i L n f b i=true):∀c,b≤c→b1i L n f c i=true:=by
  intro c hc
  induction c with
  | zero => have:b=0:=by omega
            subst this;exact h
  | succ c ih =>
    by_cases e:b=c+1
    · subst e;exact h
    · exact b3k (ih (by omega)) n
theorem c97 {f:Nat→Bool} {a b:Nat} (ha:a<n) (hb:b<n) (h:f a=true) (hl:L a b=true):b1i L n f n b=true:=by
  refine e03 (b:=a+1) ?_ n (by omega)
  show inn L a (b1i L n f a) n b=true
  refine f08 (b:=b+1) ?_ n (by omega)
  show stp L a b (inn L a (b1i L n f a) b) b=true
  have h1:=b3k (L:=L) (a:=a) (a6e (L:=L) (n:=n) h a) b
  simp [stp,h1,hl]
theorem b9o {P:Nat→Prop} {a:Nat} (ha:a<n) (hP:∀a b,a<n→b<n→P a→L a b=true→P b) {f:Nat→Bool} (hf:∀i,f i=true→P i):∀b,b≤n→∀i,inn L a f b i=true→P i
  | 0,_,i,h=>hf i h
  | b + 1,hb,i,h=>by
    have ih:=b9o ha hP hf b (by omega)
    simp only [inn,stp] at h
    split at h
    · rename_i e
      subst e
      rw [wP,wC] at h
      rcases h with h|h
      · exact ih _ h
      · exact hP a i ha (by omega) (ih a h.1) h.2
    · exact ih i h
theorem a8o {P:Nat→Prop} (hP:∀a b,a<n→b<n→P a→L a b=true→P b) {f:Nat→Bool} (hf:∀i,f i=true→P i):∀a,a≤n→∀i,b1i L n f a i=true→P i
  | 0,_,i,h=>hf i h
  | a+1,ha,i,h=>b9o (by omega) hP (a8o hP hf a (by omega)) n (vI _) i h
theorem b94 {P:Nat→Prop} (hP:∀a b,a<n→b<n→P a→L a b=true→P b) {f:Nat→Bool} (hf:∀i,f i=true→P i):∀k i,oul L n f k i=true→P i
  | 0,i,h=>hf i h
  | k+1,i,h=>a8o hP (b94 hP hf k) n (vI _) i h
theorem c3v {f:Nat→Bool} {i:Nat} (h:f i=true):∀k,oul L n f k i=true
  | 0=>h
  | k+1=>a6e (c3v h k) n
def cnt (f:Nat→Bool):Nat→Nat
  | 0=>0
  | n+1=>cnt f n+bif f n then 1 else 0
theorem b6s (f:Nat→Bool):∀n,cnt f n≤n
  | 0=>vI 0
  | n+1=>by have:=b6s f n;simp only [cnt];cases f n<;>simp<;>omega
theorem cnt_mono {f g:Nat→Bool} (h:∀i,f i=true→g i=true):∀n,cnt f n≤cnt g n
  | 0=>vI 0
  | n+1=>by
    have ih:=cnt_mono h n
    simp only [cnt]
    cases hf:f n with
    | true=>rw [h n hf];simp;exact ih
    | false=>cases g n<;>simp<;>omega
theorem cnt_lt {f g:Nat→Bool} (h:∀i,f i=true→g i=true) {j:Nat} (hf:f j=false) (hg:g j=true):∀n,j<n→cnt f n<cnt g n
  | 0,hj=>absurd hj (Nat.not_lt_zero _)
  | n + 1,hj=>by
    simp only [cnt]
    by_cases e:j=n
    · subst e
      have:=cnt_mono h j
      rw [hf,hg];simp;omega
    · have:=cnt_lt h hf hg n (by omega)
      cases hfn:f n with
      | true=>rw [h n hfn];simp;exact this
      | false=>cases g n<;>simp<;>omega
theorem c2m {f:Nat→Bool} {j:Nat} (hf:f j=true):∀n,j<n→1≤cnt f n
  | 0,hj=>absurd hj (Nat.not_lt_zero _)
  | n+1,hj=>by
    simp only [cnt]
    by_cases e:j=n
    · subst e;rw [hf];simp
    · have:=c2m hf n (by omega);omega
def Clo (L:Nat→Nat→Bool) (n:Nat) (f:Nat→Bool):Prop:=∀a b,a<n→b<n→f a=true→L a b=true→f b=true
theorem c8y {c:Nat} (hc:c<n):∀k,Clo L n (oul L n (fun i=>decide (i=c)) k)∨k+1≤cnt (oul L n (fun i=>decide (i=c)) k) n
  | 0=>.inr (c2m (j:=c) (by simp [oul]) n hc)
  | k + 1=>by
    have ih:=c8y hc k
    by_cases hcl:Clo L n (oul L n (fun i=>decide (i=c)) k)
    · left
      have e:oul L n (fun i=>decide (i=c)) (k+1)=oul L n (fun i=>decide (i=c)) k:=by
        funext i
        rw [wQ]
        exact ⟨fun h=>a8o (P:=fun i=>oul L n (fun i=>decide (i=c)) k i=true) hcl (fun i h=>h) n (vI _) i h,fun h=>a6e h n⟩
      rw [e];exact hcl
    · right
      have ih:=ih.resolve_left hcl
      have:∃a b,a<n∧b<n∧oul L n (fun i=>decide (i=c)) k a=true∧L a b=true∧oul L n (fun i=>decide (i=c)) k b=false:=Classical.byContradiction fun hn=>hcl fun a b ha hb h hl=>by
        cases hb':oul L n (fun i=>decide (i=c)) k b with
        | true=>rfl
        | false=>exact absurd ⟨a,b,ha,hb,h,hl,hb'⟩ hn
      obtain ⟨a,b,ha,hb,h,hl,hb'⟩:=this
      have:=cnt_lt (f:=oul L n (fun i=>decide (i=c)) k) (g:=oul L n (fun i=>decide (i=c)) (k+1)) (fun i h=>a6e h n) hb' (c97 ha hb h hl) n hb
      omega
theorem b6a {c:Nat} (hc:c<n):Clo L n (oul L n (fun i=>decide (i=c)) n):=(c8y hc n).resolve_right fun h=>by have:=b6s (oul L n (fun i=>decide (i=c)) n) n;omega
theorem d3l {f:Nat→Bool} (h:Clo L n f):b1i L n f n=f:=by
  funext i
  rw [wQ]
  exact ⟨fun h'=>a8o (P:=fun i=>f i=true) h (fun i h=>h) n (vI _) i h',fun h=>a6e h n⟩
theorem c1s {f:Nat→Bool} {k:Nat} (h:b1i L n (oul L n f k) n=oul L n f k):∀j,oul L n f (k+j)=oul L n f k
  | 0=>rfl
  | j+1=>by show b1i L n (oul L n f (k+j)) n=_;rw [c1s h j,h]
theorem b7o {c k:Nat} (hc:c<n) (h:b1i L n (oul L n (fun i=>decide (i=c)) k) n=oul L n (fun i=>decide (i=c)) k):oul L n (fun i=>decide (i=c)) k=oul L n (fun i=>decide (i=c)) n:=by
  have h2:=d3l (b6a (L:=L) hc)
  rw [←c1s h n,←c1s h2 k,Nat.add_comm]
theorem e7b {a b:Nat} {f:Nat→Bool} (h:(f a&&L a b&&!f b)=false):stp L a b f=f:=by
  funext i
  simp only [stp]
  split
  · rename_i e
    rw [e]
    cases hb:f b with
    | false=>rw [hb] at h;simpa using h
    | true=>simp
  · rfl
end search
end Go.Ab
namespace Go.Ab
open Go.RowKit
section
variable {P:Program}
theorem g5h {vals:Array Value} (h:vals.size=3):vals=#[vals.getD 0 undef,vals.getD 1 undef,vals.getD 2 undef]:=by
 apply Array.ext
 ·simp [h]
 ·intro i h1 h2
  have:i=0∨i=1∨i=2:=by omega
  rcases this with rfl|rfl|rfl<;>simp [zC,h1]
theorem f3c {vals:Array Value} (h:vals.size=2):vals=#[vals.getD 0 undef,vals.getD 1 undef]:=by
 apply Array.ext
 ·simp [h]
 ·intro i h1 h2
  have:i=0∨i=1:=by omega
  rcases this with rfl|rfl<;>simp [zC,h1]
theorem f8r {g:Gh} {w:World} {v:Value} {xs:List V} (h:VR g w v (.sl xs)):Rd g.S w v (.sl xs):=by
 cases h with
 | rd h=>exact h
end
def bws (b s:Str):Option Str:=chk (room (b.length+s.length) 1) (some (b++s))
def e5u (b:Str):Option Str:=some b
def a5l (n:Int):Option Str:=chk (a0j n) (some (Lib.itoa n))
def a4c (s:Str):Int:=match Lib.atoiAll s with
 | .ok v=>v
 | .range=>Lib.atoiSat s
 | _=>0
def d5v (s:Str):Option Int:=chk (decide (s.length≤281474976710656)) (some (a4c s))
theorem d1i {s:Str} {y:Int} (h:d5v s=some y):s.length≤281474976710656∧y=a4c s:=by
 unfold d5v chk at h
 cases hc:decide (s.length≤281474976710656) with
 | false=>rw [hc] at h;cases h
 | true =>
  rw [hc] at h
  exact ⟨of_decide_eq_true hc,(wF h).symm⟩
def b0y (s:Str):Bool:=match Lib.atoiAll s with
 | .ok _=>true
 | _=>false
def c0k (s:Str):Option (Int×Bool):=chk (decide (s.length≤281474976710656)) (some (a4c s,b0y s))
theorem d1j {s:Str} {y:Int×Bool} (h:c0k s=some y):s.length≤281474976710656∧y=(a4c s,b0y s):=by
 unfold c0k chk at h
 cases hc:decide (s.length≤281474976710656) with
 | false=>rw [hc] at h;cases h
 | true =>
  rw [hc] at h
  exact ⟨of_decide_eq_true hc,(wF h).symm⟩
theorem c0j (s:Str):rng .i64 (a4c s):=by
 unfold a4c
 split
 ·rename_i v h;exact Lib.atoiAll_bounds h
 ·unfold Lib.atoiSat
  split<;>exact ⟨by decide,by decide⟩
 ·exact ⟨by decide,by decide⟩
theorem e2y {b s y:Str} (h:bws b s=some y):b.length+s.length≤140737488355328∧y=b++s:=by
 unfold bws chk at h
 cases hc:room (b.length+s.length) 1 with
 | false=>rw [hc] at h;cases h
 | true =>
  rw [hc] at h
  have:=a0z.1 hc
  refine ⟨by simpa using this,?_⟩
  cases h;rfl
theorem c9x {n:Int} {y:Str} (h:a5l n=some y):rng .i64 n∧y=Lib.itoa n:=by
 unfold a5l chk at h
 cases hc:a0j n with
 | false=>rw [hc] at h;cases h
 | true =>
  rw [hc] at h
  refine ⟨x8.1 hc,?_⟩
  cases h;rfl
end Go.Ab
namespace Go.Ab
open Go.Proofs Go.RowKit
def glue (c:Str):List Str→List Str
 | []=>[c]
 | h::t=>(c++h)::t
def spl (b:UInt8):Str→List Str
 | []=>[[]]
 | c::r=>if c=b then []::spl b r else glue [c] (spl b r)
theorem c1e {b:UInt8}:∀{w:Str} (r:Str),(∀c∈w,c≠b)→spl b (w++b::r)=w::spl b r
 | [],r,_=>by simp [spl]
 | c::w,r,h=>by
  have ih:=c1e (b:=b) (w:=w) r fun k hk=>h k (by simp [hk])
  have hc:c≠b:=h c (by simp)
  simp only [List.cons_append,spl,if_neg hc,ih,glue,List.nil_append]
theorem b3h {b:UInt8}:∀{w:Str},(∀c∈w,c≠b)→spl b w=[w]
 | [],_=>rfl
 | c::w,h=>by
  have ih:=b3h (b:=b) (w:=w) fun k hk=>h k (by simp [hk])
  have hc:c≠b:=h c (by simp)
  simp only [spl,if_neg hc,ih,glue,List.cons_append,List.nil_append]
theorem b9p (b:UInt8):∀s:Str,(Lib.index s [b]=-1∧∀c∈s,c≠b)∨∃i:Nat,Lib.index s [b]=i∧s=s.take i++b::s.drop (i+1)∧∀c∈s.take i,c≠b
 | []=>.inl ⟨by simp [Lib.index],by simp⟩
 | c::r=>by
  by_cases h:c=b
  ·subst h
   exact .inr ⟨0,by rw [Lib.index];simp [List.isPrefixOf],by simp,by simp⟩
  ·have hp:([b]:List UInt8).isPrefixOf (c::r)=false:=by simp [List.isPrefixOf,Ne.symm h]
   have hix:Lib.index (c::r) [b]=if Lib.index r [b]==-1 then -1 else Lib.index r [b]+1:=by rw [Lib.index,hp];simp
   rcases b9p b r with ⟨h1,h2⟩|⟨i,h1,h2,h3⟩
   ·exact .inl ⟨by rw [hix,h1];rfl,fun x hx=>by rcases List.mem_cons.1 hx with rfl|hx;exact h;exact h2 x hx⟩
   ·refine .inr ⟨i+1,by rw [hix,h1,if_neg (by simp;try omega)];omega,by rw [List.take_succ_cons,List.drop_succ_cons,List.cons_append,←h2],fun x hx=>?_⟩
    rw [List.take_succ_cons] at hx
    rcases List.mem_cons.1 hx with rfl|hx
    ·exact h
    ·exact h3 x hx
theorem b5y (b:UInt8):∀(k:Nat) (s:Str),s.count b≤k→Lib.splitK [b] 0 k s=spl b s
 | 0,s,h=>by
  have:∀c∈s,c≠b:=fun c hc e=>by subst e;have:=List.count_pos_iff.2 hc;omega
  rw [b3h this];rfl
 | k+1,s,h=>by
  rw [Lib.splitK]
  rcases b9p b s with ⟨h1,h2⟩|⟨i,h1,h2,h3⟩
  ·rw [h1,if_pos (by rfl),b3h h2]
  ·have hn:s.count b=(s.drop (i+1)).count b+1:=by
    have h0:(s.take i).count b=0:=List.count_eq_zero.2 fun hm=>h3 b hm rfl
    conv=>lhs;rw [h2]
    rw [List.count_append,h0,List.count_cons_self];omega
   rw [h1,if_neg (by simp;try omega),b5y b k _ (by simp;try omega)]
   conv=>rhs;rw [h2,c1e _ h3]
   simp
theorem c56 (b:UInt8) (s:ByteArray):(Lib.splitB ⟨#[b]⟩ 0 (Lib.countB s ⟨#[b]⟩) s).map (·.data.toList)=spl b s.data.toList:=by
 rw [Lib.splitB_data]
 refine b5y b _ _ ?_
 show _≤Lib.count s.data.toList [b]
 rw [Lib.count_one];exact Nat.le_refl _
theorem d4y {c:Str} {n:Nat}:∀{l:List Str},(∀z∈l,z.length+c.length≤n)→c.length≤n→∀z∈glue c l,z.length≤n
 | [],_,h,z,hz=>by simp [glue] at hz;subst hz;exact h
 | x::t,h,_,z,hz=>by
  simp only [glue,List.mem_cons] at hz
  rcases hz with rfl|hz
  ·have:=h x (by simp);rw [List.length_append];omega
  ·have:=h z (by simp [hz]);omega
theorem b7c (b:UInt8):∀(s:Str),∀z∈spl b s,z.length≤s.length
 | [],z,hz=>by simp [spl] at hz;subst hz;simp
 | c::r,z,hz=>by
  have ih:=b7c b r
  simp only [spl] at hz
  split at hz
  ·rcases List.mem_cons.1 hz with rfl|hz
   ·simp
   ·have:=ih z hz;simp;omega
  ·exact d4y (fun z hz=>by have:=ih z hz;simp;omega) (by simp) z hz
def d2o (s t:Str):Option (List Str):=match t with
 | [b]=>bif decide (s.length<4294967281) then some (spl b s) else none
 | _=>none
end Go.Ab
namespace Go.Proofs
open Go.Shelf Go.RowKit Go.Lib Go.Ab
variable {P:Program} {ρ:Ren}
set_option maxHeartbeats 1000000 in
theorem Any.strings_Split_one (L:Lays.n146 P ρ) (hi9:(P.info? (ρ.t 9)).map (fun i=>(i.zero,i.size,i.bytes))=some (some (.string ByteArray.empty),1,16)) (s:ByteArray) (b:UInt8) (w:World)
  (hs:s.size<4294967281) :
  Calls P (ρ.f 146) #[.string s,.string ⟨#[b]⟩] w fun e w' =>
   e=.returned (.slice (some ⟨w.heap.size,0,none⟩) (Lib.countB s ⟨#[b]⟩+1) (Lib.countB s ⟨#[b]⟩+1))∧w'=w.alloc (.cells ((Lib.splitB ⟨#[b]⟩ 0 (Lib.countB s ⟨#[b]⟩) s).map Value.string).toArray (ρ.t 9)):=by
 have h1:1≤(⟨#[b]⟩:ByteArray).size:=Nat.le_refl _
 have hle:=Lib.countB_le ⟨#[b]⟩ h1 s.size s (Nat.le_refl _)
 have hlen:=Lib.splitB_all ⟨#[b]⟩ h1 0 _ s rfl
 have c:=Any.strings_genSplit_core { L with } hi9 s ⟨#[b]⟩ 0 (-1) (Lib.countB s ⟨#[b]⟩+1) w hs h1 (Nat.zero_le _)
  (fun x c hx=>(Any.strings_Index_one { L with } x b _).mono fun e w' h=>⟨by rw [h.1];show _=Ending.returned (Value.int .i64 (Lib.index x.data.toList [b]));rw [Lib.index_one],h.2⟩)
  ((Any.strings_Count_one { L with } s b w).mono fun e w' h=>⟨by rw [h.1];show _=Ending.returned (Value.int .i64 ((Lib.count s.data.toList [b]:Nat):Int));rw [Lib.count_one];rfl,h.2⟩)
  (by decide) (by decide) (by rw [if_pos (by decide)];omega)
 rw [Nat.add_sub_cancel,hlen] at c
 have e2:Lib.cellsOf (Lib.splitB ⟨#[b]⟩ 0 (Lib.countB s ⟨#[b]⟩) s) (Lib.countB s ⟨#[b]⟩+1)=((Lib.splitB ⟨#[b]⟩ 0 (Lib.countB s ⟨#[b]⟩) s).map Value.string).toArray:=by rw [←hlen];exact Lib.cellsOf_full _
 rw [e2] at c
 have t3:=L.t3;have t9:=L.t9;have t31:=L.t31
 have a3:=L.a3;have a9:=L.a9;have a31:=L.a31
 have z3:=L.z3;have v3:=L.v3;have z9:=L.z9;have v9:=L.v9;have z31:=L.z31;have v31:=L.v31
 have e221:∀args w,(callFunc (ρ.f 221) args).run P w=.ok (.enter (ρ.f 221) args) w:=enters_of L.f221 (by kernel_rfl) rfl
 go_enter L.f146,Body.n146_ntmps ρ
 go_wp2_with (go_at_fn (ρ.f 221);refine c.mono ?_;rintro e w' ⟨rfl,hw⟩;rw [hw])
 go_ret
 exact ⟨rfl,rfl⟩
end Go.Proofs
namespace Go.Ab
open Go.Proofs Go.Shelf Go.RowKit Go.Deep
theorem c2y {P:Program} {ρ:Ren} (L:Lays.n146 P ρ) (hc:callable P (ρ.f 146)=true) (hi9:(P.info? (ρ.t 9)).map (fun i=>(i.zero,i.size,i.bytes))=some (some (.string ByteArray.empty),1,16)) {s t:Str} {y:List Str} (hy:d2o s t=some y) :
  a0o P (ρ.f 146) [.str s,.str t] [] (fun r H=>r=.sl (y.map V.str)∧H=[]):=by
 unfold d2o at hy
 split at hy
 ·rename_i b
  cases hd:decide (s.length<4294967281) with
  | false=>rw [hd] at hy;cases hy
  | true =>
   rw [hd] at hy
   obtain rfl:=Option.some.inj hy
   have hs:=of_decide_eq_true hd
   refine a9l hc fun g w vals hH hl hv=>?_
   obtain ⟨q,e1,e2,_⟩:=(hv 0 _ rfl).str_inv
   obtain ⟨q',e1',e2',_⟩:=(hv 1 _ rfl).str_inv
   have hq:q'=⟨#[b]⟩:=by
    apply ByteArray.ext
    apply Array.toList_inj.1
    rw [e2']
   have ha:vals=#[vals.getD 0 undef,vals.getD 1 undef]:=by
    apply Array.ext
    ·simpa using hl
    ·intro i h1 h2
     have:i=0∨i=1:=by simp at h2;omega
     rcases this with rfl|rfl<;>simp [Array.getD_eq_getD_getElem?,h1]
   rw [ha,e1,e1',hq]
   have hsz:q.size=s.length:=by rw [←e2,Array.length_toList];rfl
   refine (Any.strings_Split_one L hi9 q b w (by omega)).mono ?_
   rintro en w' ⟨rfl,rfl⟩
   have hlen:=Lib.splitB_all ⟨#[b]⟩ (Nat.le_refl _) 0 _ q rfl
   have hspl:=c56 b q
   generalize Lib.splitB ⟨#[b]⟩ 0 (Lib.countB q ⟨#[b]⟩) q=l at hlen hspl
   have hcn:=Lib.countB_le ⟨#[b]⟩ (Nat.le_refl _) q.size q (Nat.le_refl _)
   generalize Lib.countB q ⟨#[b]⟩=n at hlen hcn
   rw [e2] at hspl
   refine ⟨_,rfl,(World.Since.refl _ _).alloc (Nat.le_refl _) _,?_⟩
   have hmx:n+1≤maxLen:=Nat.le_trans (show n+1≤4294967295 by omega) (by unfold maxLen;decide)
   refine .sl w.heap.size 0 (n+1) (n+1) 1 (l.map Value.string).toArray (ρ.t 9) (0,0) _ (.inr ⟨Nat.le_refl _,by simp⟩) (by show (w.heap.push _)[w.heap.size]?=_;exact Array.getElem?_push_size) (by rw [List.length_map,←hspl,List.length_map,hlen]) hmx (Nat.le_refl _) (.inr (by simp [hlen])) (fun x hx=>?_) fun i j x c hi hj=>?_
   ·obtain ⟨z,_,rfl⟩:=List.mem_map.1 hx
    exact ⟨rfl,fun c hc=>by simp [V.cells] at hc;subst hc;rfl,rfl⟩
   ·rw [←hspl,List.map_map,List.getElem?_map] at hi
    obtain ⟨z,hz,rfl⟩:=Option.map_eq_some_iff.1 hi
    cases j with
    | succ j=>simp [V.cells,Function.comp] at hj
    | zero =>
     simp [V.cells,Function.comp] at hj
     subst hj
     have:((l.map Value.string).toArray).getD (0+i*1+0) undef=.string z:=by
      simp [Array.getD_eq_getD_getElem?,hz]
     rw [this]
     refine .str z ?_
     have hm:z.data.toList∈spl b s:=by rw [←hspl];exact List.mem_map.2 ⟨z,List.mem_of_getElem? hz,rfl⟩
     have:=b7c b s _ hm
     rw [Array.length_toList] at this
     exact Nat.le_trans (Nat.le_trans this (Nat.le_of_lt hs)) (by unfold maxLen;decide)
 ·cases hy
end Go.Ab
namespace Go.Ab
open Go.Proofs
theorem c6c {n k m:Nat} {o:Option Nat}:V.sealOK n k m (fnV o)=True:=by cases o<;>simp [fnV,V.sealOK,V.sealOKs]
theorem d53 {n:Nat} {xs:List V} {o:Option Nat}:V.shut n xs (fnV o)=fnV o:=by cases o<;>simp [fnV,V.shut,V.sealL]
theorem e2d {a b:Nat} {o:Option Nat}:V.ren a b (fnV o)=fnV o:=by cases o<;>simp [fnV,V.ren,V.renL]
theorem e2c {n:Nat} {y:V} {o:Option Nat}:V.shm n y (fnV o)=fnV o:=by cases o<;>simp [fnV,V.shm,V.shmL]
theorem c6b {l:List Nat} {o:Option Nat}:V.within l (fnV o)=true:=by cases o<;>simp [fnV,V.within,V.withinL]
attribute [go_sem ↓] c4i d0c d7g d0b c6c d53 e2d e2c c6b d0a d0d b9u d7f b9t c4h
class WI {α:Type} (F:Option α) (P:outParam Program) (n:outParam Nat) (args:outParam (List V)) (H:outParam Heap) (RV:outParam (α→V)) (HV:outParam (α→Heap)):Prop where
 c:Cn P n args H F RV HV
theorem WI.w {α:Type} {F:Option α} {P:Program} {n:Nat} {args:List V} {H:Heap} {RV:α→V} {HV:α→Heap} [i:WI F P n args H RV HV] {y:α} (hy:F=some y):a0o P n args H (fun r H'=>r=RV y∧H'=HV y):=i.c.w hy
def Al {α:Type} (o:Option α) (Q:α→Prop):Prop:=∀y,o=some y→Q y
section
variable {α β:Type} {Q:α→Prop}
theorem Al.chk {b:Bool} {o:Option α} (h:Al o Q):Al (chk b o) Q:=by
 intro y e
 cases b with
 | true=>exact h y e
 | false=>cases e
theorem Al.ite {b:Bool} {x y:Option α} (h1:Al x Q) (h2:Al y Q):Al (bif b then x else y) Q:=by cases b<;>assumption
theorem Al.bind {o:Option β} {f:β→Option α} (h:∀y,o=some y→Al (f y) Q):Al (o.bind f) Q:=by
 intro y e
 obtain ⟨w,h1,h2⟩:=zL.1 e
 exact h w h1 y h2
theorem Al.jn {o:Option β} {f:β→Option α} (h:∀y,o=some y→Al (f y) Q):Al (jn o f) Q:=Al.bind h
theorem Al.grp {x:β} {f:β→Option α} (h:Al (f x) Q):Al (grp x f) Q:=h
theorem Al.some {x:α} (h:Q x):Al (some x) Q:=fun y e=>by cases e;exact h
theorem Al.none:Al none Q:=fun y e=>by cases e
end
theorem a2m {σ ρ:Type} {step:σ→Option (Fl σ ρ)} {m:σ→Nat} {r:ρ→Nat} (h:∀s o,step s=some o→o.elim (fun s'=>m s'=m s) (fun q=>r q=m s)) {s:σ} {q:ρ} (hl:loop step s=some q):r q=m s:=by
 obtain ⟨n,hn⟩:=a3s.1 hl
 clear hl
 induction n generalizing s with
 | zero=>simp [iter] at hn
 | succ n ih =>
  simp only [iter,zL] at hn
  obtain ⟨o,h1,h2⟩:=hn
  have e:=h _ _ h1
  cases o with
  | nx s'=>exact (ih h2).trans e
  | ex q'=>cases h2;exact e
class LI (b:MC) (isl nsl:outParam Nat) (ke kh:outParam (List Nat)) {σ:outParam Type} (ue:outParam (σ→List (Nat×V))) (uh:outParam (σ→List Up)) (ns:outParam (List a4y)):Prop
class GI (b:List MOp) (ke kh:outParam (List Nat)) {σ:outParam Type} (ue:outParam (σ→List (Nat×V))) (uh:outParam (σ→List Up)):Prop
class GV (b:List MOp) (d:outParam Nat) (ds:outParam (List Nat)):Prop
section
variable {M:a10} {c:Cfg} {e:List (Nat×V)} {h:Heap} {s:List Fr}
theorem a10.go_un {b b':MC} {σ:St} (e:b=b') (h:M.go c b' s σ):M.go c b s σ:=e▸h
theorem a10.ops_un {b b':List MOp} {σ:St} (e:b=b') (h:M.ops c b' s σ):M.ops c b s σ:=e▸h
theorem a10.jn2 {α β:Type} {a b:MC} {A:Option α} {B:α→Option β} {Q:β→Prop} {i n:Nat} {ke kh:List Nat} {ue:α→List (Nat×V)} {uh:α→List Up} {ns:List a4y} [LI b i n ke kh ue uh ns] (hF:Ok (jn A B) Q)
  (h1:∀(Qn:α→Prop) (K:St→Prop),(∀σ',(a0m c.H0 ns σ' fun σ'=>∃y,Qn y∧a0v (ovS e h ke kh (ue y) (uh y)) σ')→K σ')→Ok A Qn→M.go ⟨c.P,c.H0,K,M.kX c s,c.R⟩ a [] ⟨e,h⟩)
  (h2:∀y,Ok (B y) Q→M.go c b s (ovS e h ke kh (ue y) (uh y))):M.go c (.cut a b) s ⟨e,h⟩:=M.jn1 ke kh ue uh ns hF h1 h2
theorem a10.jnE2 {α β ρ:Type} {a b:MC} {A:Option (Fl α ρ)} {B:α→Option β} {E:ρ→Option β} {Q:β→Prop} {i n:Nat} {ke kh:List Nat} {ue:α→List (Nat×V)} {uh:α→List Up} {ns:List a4y} [LI b i n ke kh ue uh ns] (hF:Ok (jn A fun o=>o.elim B E) Q)
  (h1:∀(Qn:α→Prop) (K:St→Prop),(∀σ',(a0m c.H0 ns σ' fun σ'=>∃y,Qn y∧a0v (ovS e h ke kh (ue y) (uh y)) σ')→K σ')→Ok A (Fl.elim Qn fun r=>Ok (E r) Q)→M.go ⟨c.P,c.H0,K,M.kX c s,c.R⟩ a [] ⟨e,h⟩)
  (h2:∀y,Ok (B y) Q→M.go c b s (ovS e h ke kh (ue y) (uh y))):M.go c (.cut a b) s ⟨e,h⟩:=M.jnE ke kh ue uh ns hF h1 h2
theorem a10.gj2 {α β:Type} {ms:List MOp} {its:List It} {A:Option α} {B:α→Option β} {Q:β→Prop} {ke kh:List Nat} {ue:α→List (Nat×V)} {uh:α→List Up} [GI ms ke kh ue uh] (hF:Ok (jn A B) Q)
  (h1:∀(Qn:α→Prop) (K:St→Prop),(∀σ',(∃y,Qn y∧a0v (ovS e h ke kh (ue y) (uh y)) σ')→K σ')→Ok A Qn→M.ops ⟨c.P,c.H0,K,fun _ _=>False,fun _=>False⟩ ms [] ⟨e,h⟩)
  (h2:∀y,Ok (B y) Q→M.kN c (.it its::s) (ovS e h ke kh (ue y) (uh y))):M.grpC c ms its s ⟨e,h⟩:=M.gj1 ke kh ue uh hF h1 h2
theorem a10.gv2 {ms:List MOp} {its:List It} {x:Bool} {β:Type} {B:Bool→Option β} {Q:β→Prop} {d:Nat} {ds:List Nat} [GV ms d ds] (hF:Ok (grp x B) Q)
  (h1:∀(K:St→Prop),(∀σ',a0v ⟨put d (.bool x) (c08 ds e),h⟩ σ'→K σ')→M.ops ⟨c.P,c.H0,K,fun _ _=>False,fun _=>False⟩ ms [] ⟨e,h⟩)
  (h2:∀b,Ok (B b) Q→M.kN c (.it its::s) ⟨put d (.bool b) (c08 ds e),h⟩):M.grpC c ms its s ⟨e,h⟩:=M.gv1 d ds hF h1 h2
theorem a10.wh2 {σ ρ:Type} {b:MC} {step:σ→Option (Fl σ ρ)} {s0:σ} {Q:ρ→Prop} {i n:Nat} {ke kh:List Nat} {ue:σ→List (Nat×V)} {uh:σ→List Up} {ns:List a4y} [LI b i n ke kh ue uh ns] (hF:Ok (loop step s0) Q)
  (h0:a0m c.H0 ns ⟨e,h⟩ fun σ'=>a0v (ovS e h ke kh (ue s0) (uh s0)) σ')
  (round:∀(x:σ) (Qn:σ→Prop) (K:St→Prop),(∀σ',(a0m c.H0 ns σ' fun σ'=>∃y,Qn y∧a0v (ovS e h ke kh (ue y) (uh y)) σ')→K σ')→Ok (step x) (Fl.elim Qn Q)→M.go ⟨c.P,c.H0,K,M.kX c s,c.R⟩ b [] (ovS e h ke kh (ue x) (uh x))) :
  M.go c (.loop b) s ⟨e,h⟩:=M.wh1 ke kh ue uh ns hF h0 round
theorem a10.for2 {α σ ρ:Type} [Inhabited α] {b:MC} {body:Int→α→σ→Option (Fl σ ρ)} {xs:List α} {s0:σ} {Q:Fl σ ρ→Prop} {isl nsl:Nat} {ke kh:List Nat} {ue:σ→List (Nat×V)} {uh:σ→List Up} {ns:List a4y} [LI b isl nsl ke kh ue uh ns] (hF:Ok (forL body xs 0 s0) Q)
  (h0:a0m c.H0 ns ⟨e,h⟩ fun σ'=>a0v (ovS e h ke kh ((isl,.int .i64 ((0:Nat):Int))::ue s0) (uh s0)) σ')
  (round:∀(k:Nat) (a:α) (x:σ) (Qn:σ→Prop) (K:St→Prop),(∀σ',(a0m c.H0 ns σ' fun σ'=>∃y,Qn y∧a0v (ovS e h ke kh ((isl,.int .i64 ((k+1:Nat):Int))::ue y) (uh y)) σ')→K σ')→k<xs.length→xs.getD k default=a →
   Ok (body k a x) (Fl.elim Qn fun r=>Q (.ex r))→(∀{y:V},find nsl (ovS e h ke kh ((isl,.int .i64 k)::ue x) (uh x)).env=some y→y.fact)→M.go ⟨c.P,c.H0,K,M.kX c s,c.R⟩ b [] (ovS e h ke kh ((isl,.int .i64 k)::ue x) (uh x)))
  (stop:∀(x:σ) (K:St→Prop),Q (.nx x)→M.go ⟨c.P,c.H0,K,M.kX c s,c.R⟩ b [] (ovS e h ke kh ((isl,.int .i64 (xs.length:Int))::ue x) (uh x))):M.go c (.loop b) s ⟨e,h⟩ :=
 M.for1 isl ke kh ue uh ns hF h0 (fun k a x Qn K h1 h2 h3 h4 h5=>round k a x Qn K h1 h2 h3 h4 fun h=>a0q h5.1 h) stop
theorem a10.fold2 {α σ:Type} [Inhabited α] {b:MC} {body:Int→α→σ→Option σ} {xs:List α} {s0:σ} {Q:σ→Prop} {isl nsl:Nat} {ke kh:List Nat} {ue:σ→List (Nat×V)} {uh:σ→List Up} {ns:List a4y} [LI b isl nsl ke kh ue uh ns] (hF:Ok (foldL body xs 0 s0) Q)
  (h0:a0m c.H0 ns ⟨e,h⟩ fun σ'=>a0v (ovS e h ke kh ((isl,.int .i64 ((0:Nat):Int))::ue s0) (uh s0)) σ')
  (round:∀(k:Nat) (a:α) (x:σ) (Qn:σ→Prop) (K:St→Prop),(∀σ',(a0m c.H0 ns σ' fun σ'=>∃y,Qn y∧a0v (ovS e h ke kh ((isl,.int .i64 ((k+1:Nat):Int))::ue y) (uh y)) σ')→K σ')→k<xs.length→xs.getD k default=a →
   Ok (body k a x) Qn→(∀{y:V},find nsl (ovS e h ke kh ((isl,.int .i64 k)::ue x) (uh x)).env=some y→y.fact)→M.go ⟨c.P,c.H0,K,M.kX c s,c.R⟩ b [] (ovS e h ke kh ((isl,.int .i64 k)::ue x) (uh x)))
  (stop:∀(x:σ) (K:St→Prop),Q x→M.go ⟨c.P,c.H0,K,M.kX c s,c.R⟩ b [] (ovS e h ke kh ((isl,.int .i64 (xs.length:Int))::ue x) (uh x))):M.go c (.loop b) s ⟨e,h⟩ :=
 M.fold1 isl ke kh ue uh ns hF h0 (fun k a x Qn K h1 h2 h3 h4 h5=>round k a x Qn K h1 h2 h3 h4 fun h=>a0q h5.1 h) stop
theorem g4j {P K:St→Prop} (h:∀σ',P σ'→K σ') {σ:St} (p:P σ):K σ:=h σ p
end
theorem g5a {p:Prop} [Decidable p] {A B:Prop} (h:(decide p=true→A)∧(decide p=false→B)):(p∧A)∨(¬p∧B):=by
 by_cases hp:p
 ·exact .inl ⟨hp,h.1 (wR hp)⟩
 ·exact .inr ⟨hp,h.2 (wE hp)⟩
@[go_sem] def e5d:List (Nat×Nat)→List V→List V
 | [],l=>l
 | (a,b)::r,l=>e5d r (V.swL a b l)
@[go_sem] def e5c:List (Nat×Nat)→V→V
 | [],x=>x
 | (a,b)::r,x=>e5c r (x.sw a b)
@[go_sem] def d20:List (Nat×Nat)→Heap→Heap
 | [],H=>H
 | (a,b)::r,H=>d20 r (swH a b H)
theorem b1e {P:Program} {f:Nat}:∀(l:List (Nat×Nat)) {args:List V} {H:Heap} {r0:V} {H1:Heap},a0o P f args H (fun r H'=>r=r0∧H'=H1)→a0o P f (e5d l args) (d20 l H) (fun r H'=>r=e5c l r0∧H'=d20 l H1)
 | [],_,_,_,_,h=>h
 | (a,b)::r,_,_,_,_,h=>b1e r (o9 a b h)
class SwA (l:outParam (List (Nat×Nat))):Prop
class SwB (l:outParam (List (Nat×Nat))):Prop
class SwC (l:outParam (List (Nat×Nat))):Prop
section
variable {P:Program} {f:Nat} {l:List (Nat×Nat)} {args:List V} {H:Heap} {r0:V} {H1:Heap}
theorem d1q [SwA l] (h:a0o P f args H (fun r H'=>r=r0∧H'=H1)):a0o P f (e5d l args) (d20 l H) (fun r H'=>r=e5c l r0∧H'=d20 l H1):=b1e l h
theorem d1p [SwB l] (h:a0o P f args H (fun r H'=>r=r0∧H'=H1)):a0o P f (e5d l args) (d20 l H) (fun r H'=>r=e5c l r0∧H'=d20 l H1):=b1e l h
theorem d1o [SwC l] (h:a0o P f args H (fun r H'=>r=r0∧H'=H1)):a0o P f (e5d l args) (d20 l H) (fun r H'=>r=e5c l r0∧H'=d20 l H1):=b1e l h
end
theorem tX {p:Prop} (x:p:=by
 replace h:=tY h
 refine tB ?_
 repeat' (first
 | (exact tZ)
 | ((first|refine b3a h ?_|refine a3y h ?_|refine b3m h ?_|refine b3l h ?_|refine b3t h ?_|refine appG h ?_|refine b3v h ?_|refine fork h ?_ ?_|refine a4a h ?_ ?_)<;>clear h<;>intro hc h)
 | (replace h:=(show d7l _ _=true∧_ from h).2)
 | (refine d63 h (fun hp=>by simpa using hp) ?_ ?_<;>first
  | (clear h;intro hc h;rw [M.lok_eq];replace h:=tY h;refine tB ?_)
  | (clear h;intro h;rw [M.lok_eq];replace h:=tY h;refine tB ?_))
 | (obtain ⟨y,hy,h⟩:=h;have hw:=WI.w hy;replace hw:=tY hw;(first|refine M.sC hw ?_|refine M.sD hw ?_);clear hw hy;refine tB ?_)
 | (obtain ⟨y,hy,h⟩:=h;have hw:=d1q (WI.w hy);replace hw:=tY hw;(first|refine M.sC hw ?_|refine M.sD hw ?_);clear hw hy;refine tB ?_)
 | (obtain ⟨y,hy,h⟩:=h;have hw:=d1p (WI.w hy);replace hw:=tY hw;(first|refine M.sC hw ?_|refine M.sD hw ?_);clear hw hy;refine tB ?_)
 | (obtain ⟨y,hy,h⟩:=h;have hw:=d1o (WI.w hy);replace hw:=tY hw;(first|refine M.sC hw ?_|refine M.sD hw ?_);clear hw hy;refine tB ?_)
 | ((first|show b39 _ (fnV _) _ _ _ _ _|show b42 _ (fnV _) _ _ _ _ _);rcases g5a h with ⟨hc,h⟩|⟨hc,h⟩<;>first|exact False.elim h|(simp only [hc];replace h:=tY h;refine tB ?_)|skip)
 | (refine M.jn2 h ?_ ?_<;>first
  | (clear h;intro Qn K hK h;replace h:=tY h;refine tB ?_)
  | (clear h;intro y h;refine M.go_un (by with_unfolding_all (conv=>lhs;whnf);try exact rfl) ?_;replace h:=tY h;refine tB ?_))
 | (refine M.jnE2 h ?_ ?_<;>first
  | (clear h;intro Qn K hK h;replace h:=tY h;refine tB ?_)
  | (clear h;intro y h;refine M.go_un (by with_unfolding_all (conv=>lhs;whnf);try exact rfl) ?_;replace h:=tY h;refine tB ?_))
 | (refine M.gv2 h ?_ ?_<;>first
  | (clear h;intro K hK;refine M.ops_un (by with_unfolding_all (conv=>lhs;whnf);try exact rfl) ?_;refine tB ?_)
  | (clear h;intro b h;replace h:=tY h;refine tB ?_))
 | (refine M.gj2 h ?_ ?_<;>first
  | (clear h;intro Qn K hK h;refine M.ops_un (by with_unfolding_all (conv=>lhs;whnf);try exact rfl) ?_;replace h:=tY h;refine tB ?_)
  | (clear h;intro y h;replace h:=tY h;refine tB ?_))
 | (refine M.wh2 h ?_ ?_<;>first
  | (clear h;intro x Qn K hK h;refine M.go_un (by with_unfolding_all (conv=>lhs;whnf);try exact rfl) ?_;replace h:=tY h;refine tB ?_)
  | (clear h;(try refine tB ?_);exact tU0;done))
 | ((first|refine M.for2 h ?_ ?_ ?_|refine M.fold2 h ?_ ?_ ?_)<;>first
  | (clear h;(try (have ha3:=ha2;clear ha2));(try (have ha2:=ha1;clear ha1));(try (have ha1:=ha;clear ha));intro k a x Qn K hK hkN ha h hl;(first|have hl:=a1s (hl rfl)|skip);have hkd:=kD hkN;have hkB:=kB hkN;have hkI:=kI (k:=k) (by (try simp only [x5,wK] at hkN);omega);clear hl;refine M.go_un (by with_unfolding_all (conv=>lhs;whnf);try exact rfl) ?_;replace h:=tY h;refine tK ha hkd hkN hkB hkI ?_)
  | (clear h;intro x K h;replace h:=And.left (And.intro h trivial);refine M.go_un (by with_unfolding_all (conv=>lhs;whnf);try exact rfl) ?_;replace h:=tY h;refine tB ?_)
  | (clear h;(try refine tB ?_);exact tU0;done))
 | (simp only [ha])|(simp only [ha1])|(simp only [ha2])|(simp only [ha3])
 | (exact absurd (hc.symm.trans (by assumption:_=true)) xL)
 | (exact absurd (hc.symm.trans (by assumption:_=false)) xL.symm)
 | (refine g4j (by assumption) ?_;first|((try refine tB ?_);refine ⟨_,h,?_⟩;(first|(exact tU0;done)|(exact tU;done)))|(exact tU;done))
 | (refine d5t (fun hc=>?_) (fun hc=>?_))
 | (refine tE ?_;(first|rw [M.lok_compU]|rw [M.lokD_compU]);refine tB ?_)
 | (refine ⟨_,g0z (by first|exact a1v (by assumption)|exact a5x (by assumption)|assumption) rfl,?_⟩;(first|rw [M.lok_compU]|rw [M.lokD_compU]);refine tB ?_)
 | (refine ⟨_,g0y (by first|exact a1v (by assumption)|exact a5x (by assumption)|assumption),?_⟩;(first|rw [M.lok_compU]|rw [M.lokD_compU]|(simp only [V.cells,xD,wS];first|rw [M.lok_comp]|rw [M.lokD_comp]));refine tB ?_)
 | (refine ⟨_,a9g (by first|exact a1v (by assumption)|exact a5x (by assumption)),?_⟩;(first|rw [M.lok_compU]|rw [M.lokD_compU]|(simp only [V.cells];first|rw [M.lok_comp]|rw [M.lokD_comp]));refine tB ?_)
 | (refine tA ?_)|fail)):p:=x
end Go.Ab
namespace Go.Ab
open Go.RowKit
@[irreducible] def cJ {k:IntKind} {n:Int}:V:=.int k n
@[irreducible] def cS {s:List UInt8}:V:=.str s
theorem e2w {k:IntKind} {n:Int}:@cJ k n=.int k n:=by unfold cJ;rfl
theorem f2c {s:List UInt8}:@cS s=.str s:=by unfold cS;rfl
mutual
def zv (b:Bool):Value→V
 | .bool c=>.bool c
 | .int k n=>@cJ k n
 | .string ⟨⟨l⟩⟩=>@cS l
 | .slice _ _ _=>bif b then .nils else .sl []
 | .pointer _=>.nilp
 | .map _=>.nilm
 | .nilFunc=>.nilf
 | .nilIface=>bif b then .nili else .ifc true
 | .agg ⟨l⟩=>.agg (zvs b l)
 | _=>.any
def zvs (b:Bool):List Value→List V
 | []=>[]
 | v::r=>zv b v::zvs b r
end
def co (b:Bool):Operand→Opd
 | .tmp n=>.t n
 | .const v=>.c (zv b v)
 | .func f=>.f f
 | .global _=>.c .any
def cos (b:Bool):List Operand→List Opd
 | []=>[]
 | x::r=>co b x::cos b r
def coO:Option Operand→Option Opd
 | none=>none
 | some x=>some (co false x)
section
variable (P:Program)
def tz (b:Bool) (t:TypeId):V:=match P.info? t with
 | some i=>match i.zero with
  | some v=>zv b v
  | none=>.any
 | none=>.any
def tzc (b:Bool) (t:TypeId):List V:=match P.info? t with
 | some i=>match i.zero with
  | some (.agg ⟨l⟩)=>zvs b l
  | some v=>[zv b v]
  | none=>[]
 | none=>[]
def tsz (t:TypeId):Nat:=match P.info? t with
 | some i=>i.size
 | none=>0
def tby (t:TypeId):Nat:=match P.info? t with
 | some i=>i.bytes
 | none=>0
def tag (t:TypeId):Option Nat:=match P.underlying t with
 | some (.struct _)|some (.array _ _)=>some (tsz P t)
 | _=>none
def tel (t:TypeId):TypeId:=match P.underlying t with
 | some (.slice e)|some (.array _ e)=>e
 | _=>0
def tkd (t:TypeId):KD:=match P.underlying t with
 | some (.map k _)=>match P.underlying k with
  | some (.int i)=>.int i
  | some .string=>.str
  | _=>.bool
 | _=>.bool
def tmv (t:TypeId):TypeId:=match P.underlying t with
 | some (.map _ e)=>e
 | _=>0
def cps (b:Bool) (fs:List Field):List (Nat×Operand)→List (Nat×Nat×Opd)
 | []=>[]
 | (i,x)::r=>(match fs[i]? with
  | some f=>(f.offset,tsz P f.type,co b x)
  | none=>(0,0,co b x))::cps b fs r
def ks0 (rec:List Field→List Nat):List Field→List Nat
 | []=>[]
 | f::r=>(match P.underlying f.type with
  | some (.int _)=>[0]
  | some .string=>[1]
  | some .bool=>[2]
  | some (.struct ⟨fs⟩)=>rec fs
  | _=>[])++ks0 rec r
def ksN:Nat→List Field→List Nat
 | 0=>fun _=>[]
 | n+1=>ks0 P (ksN n)
def f1z:BinOp→Bool
 | .neq=>true
 | _=>false
def g53:BinOp→Bool
 | .add|.sub|.mul=>true
 | _=>false
def g52:BinOp→Bool
 | .quo|.rem=>true
 | _=>false
def f7u (x y:Opd):a02:=.mv (.c .any)
def f8a (l:List Opd):a02:=.mv (.c .any)
def f7y (l:List Opd):a02:=.mv (.c .any)
def f8b (b:Bool) (x:Opd):a02:=.mp (.isn b) [x]
def f8c (b:Bool) (x:Opd):a02:=.mp (.ifz b) [x]
def f8e (b:Bool) (x:Opd):a02:=.mp (.fnz b) [x]
def f7x (x:Opd):a02:=.mv (.c .any)
def f8g (n:Nat) (x y:Opd):a02:=.mv (.c .any)
def f8h (f:Nat) (l:List Opd):a02:=.mv (.c .any)
def f8j (n b:Nat) (x y:Opd):a02:=.mp (.apc n b) [x,y]
def f7w (x:Opd):a02:=.s2b x
def e6y (x:Opd):a02:=.mv (.c .any)
def f8i (x:Opd):a02:=.b2s x
def f7z (x:Opd):a02:=.mv (.c .any)
def f8d (x:Opd):a02:=.mv (.c .any)
def f7v (x:Opd) (a b:Option Opd):a02:=.sls x a b
def f8f (n:Option Nat) (o:Nat) (x:Opd):a02:=.mv (.c .any)
def f8k (k n:Nat) (x y:Opd):a02:=.mv (.c .any)
def lg2 (n:Int):Nat→Option Nat
 | 0=>none
 | f+1=>if n=1 then some 0 else if n % 2=0 then (lg2 (n / 2) f).map (·+1) else none
def g5e (wr:Bool) (o:BinOp) (t:TypeId) (x y:Operand):a02:=match P.underlying t with
 | some (.int k)=>match (match o,y with
   | .and,.const (.int _ n)=>(match lg2 (n+1) 64 with|some m=>bif Nat.blt m k.bits then some m else none|none=>none)
   | _,_=>none) with
  | some m=>.mask m (co false x) k
  | none=>.bin (!wr&&(g52 o||(g53 o&&kEq k .i64))) o (co false x) (co false y)
 | some .string=>.bin false o (co false x) (co false y)
 | some .bool=>.beq (f1z o) (co false x) (co false y)
 | some (.struct ⟨fs⟩)=>.eqs (f1z o) (ksN P 4 fs) (co false x) (co false y)
 | some (.slice _)=>f8b (f1z o) (co false x)
 | some (.interface _)=>f8c (f1z o) (co false x)
 | some (.func _ _ _)=>f8e (f1z o) (co false x)
 | _=>.mv (.c .any)
def wide (a b:IntKind):Bool:=kEq a b||(Nat.blt a.bits b.bits&&(!a.signed||b.signed))
def ccv (lit:Bool) (a b:TypeId) (x:Opd):a02:=match P.underlying a,P.underlying b with
 | some (.int i),some (.int j)=>.i2i (wide i j) j x
 | some (.int _),some .string=>f7x x
 | some .string,some .string=>f8d x
 | some .string,some (.slice _)=>bif lit then e6y x else f7w x
 | some (.slice _),some .string=>f8i x
 | some (.slice _),some (.slice _)=>f7z x
 | _,_=>.mv (.c .any)
def c2 (l:List (Nat×Operand)):List Operand:=l.map (·.2)
def ci (k:Nat) (ids news:List Nat):Op→a02
 | .move x|.assign x=>.mv (co (Nat.beq k 1) x)
 | .pick c a b=>.pick (co false c) (co false a) (co false b)
 | .alloc e=>.alloc (tzc P (Nat.beq k 1||Nat.beq k 8) e) (bif Nat.ble 7 k then some e else none)
 | .box _ x=>.box (co false x)
 | .build t ⟨ps⟩=>(match P.underlying t with
  | some (.struct ⟨fs⟩)=>.build (tzc P (Nat.beq k 1) t) (cps P (Nat.beq k 1) fs ps)
  | _=>.barr (tsz P (tel P t)) (tzc P false t) (cos false (c2 ps)))
 | .buildSlice t _ ⟨ps⟩=>bif Nat.beq k 2 then .lsl (tsz P (tel P t)) (cos false (c2 ps)) else bif Nat.beq k 4 then f8a (cos false (c2 ps)) else .bslice (tsz P (tel P t)) (cos false (c2 ps)) (Nat.beq k 3)
 | .load t x=>bif Nat.ble 100 k then .mp (.tab (k - 100)) [] else .ld (tag P t) (co false x)
 | .store t x y=>bif Nat.beq k 4 then f7u (co false x) (co false y) else .st (tsz P t) (co false x) (co false y)
 | .nilCheck x=>.nck (co false x)
 | .binOp o t x y _=>g5e P (Nat.beq k 6) o t x y
 | .unOp .not _ x=>.not (co false x)
 | .unOp .neg t x=>.neg (match P.underlying t with|some (.int i)=>kEq i .i64|_=>false) (co false x)
 | .convert a b x=>ccv P (Nat.beq k 2) a b (co false x)
 | .makeFunc (.func f) ⟨a⟩ ⟨b⟩=>(match a with|[]=>.mkfn f (cos false b)|a=>f8h f (cos false a))
 | .makeMap t _=>.mp (.mk (tkd P t)) []
 | .lookup t x y c=>.mp (.lku (tkd P t) c (tz P false (tmv P t))) [co false x,co false y]
 | .mapUpdate t x y z|.insert t x y z=>.mp (bif Nat.beq k 4 then .ups (tkd P t) else .up (tkd P t)) [co false x,co false y,co (Nat.beq k 1) z]
 | .range _ x=>.mp .rng [co false x]
 | .next x _=>.mp .nxt [co false x]
 | .entry x=>.mp .ent [co false x]
 | .makeSlice t x y=>.mksl (tsz P (tel P t)) (tby P (tel P t)) (tz P false (tel P t)) (co false x) (co false y)
 | .slice t x lo hi _=>(match P.underlying t with
  | some .string=>f7v (co false x) (coO lo) (coO hi)
  | _=>.slc (tsz P (tel P t)) (co false x) (coO lo) (coO hi))
 | .fieldAddr t x f=>(match P.underlying t with
  | some (.struct fs)=>(match fs[f]? with|some fl=>.fad fl.offset (co false x)|none=>.mv (.c .any))
  | _=>.mv (.c .any))
 | .field t x f=>(match P.underlying t with
  | some (.struct fs)=>(match fs[f]? with|some fl=>f8f (tag P fl.type) fl.offset (co false x)|none=>.mv (.c .any))
  | _=>.mv (.c .any))
 | .indexAddr t x y=>(match P.underlying t with
  | some (.array n e)=>f8k (tsz P e) n (co false x) (co false y)
  | _=>.iad (tsz P (tel P t)) (co false x) (co false y))
 | .index t x y=>(match P.underlying t with
  | some (.array n e)=>.aix (tag P e) (tsz P e) n (co false x) (co false y)
  | _=>.idx (co false x) (co false y))
 | .extract x i=>.ext i (co false x)
 | .call ⟨.value f,⟨xs⟩,_⟩=>.call (co false f) (cos (Nat.beq k 1) xs) ids news
 | .call ⟨.builtin b,⟨xs⟩,⟨ts⟩⟩=>(match b,xs,ts with
  | .len,[x],t::_=>(match P.underlying t with
   | some (.map _ _)=>.mp .len [co false x]
   | some .string=>.len true (co false x)
   | _=>.len false (co false x))
  | .append,[x,y],t::_=>bif Nat.beq k 5 then f8j (tsz P (tel P t)) (tby P (tel P t)) (co false x) (co false y) else
    .app (tsz P (tel P t)) (tby P (tel P t)) (match x with|.const _=>.c .nils|_=>co false x) (co false y) (bif Nat.beq k 7 then some (tel P t) else none)
  | .copy,[x,y],t::_=>f8g (tsz P (tel P t)) (co false x) (co false y)
  | .delete,[x,y],t::_=>.mp (.del (tkd P t)) [co false x,co false y]
  | .max,[x,y],_=>.mm true (co false x) (co false y)
  | .min,[x,y],_=>.mm false (co false x) (co false y)
  | .max,[x,y,z],_=>f7y [co false x,co false y,co false z]
  | _,_,_=>.mv (.c .any))
 | _=>.mv (.c .any)
inductive RA where
 | k (j n:Nat)
 | c (j n:Nat) (ids news:List Nat)
 | n (j:Nat) (n:a4y)
 | v (j l:Nat)
 | u (j l:Nat) (m:List MOp)
 | w (j l t:Nat)
structure RN where
 nt:List a4y
 tw:List RA
 it:List RA
def cgd (all:List Oper):Option (Nat×Bool)→Option (Nat×Bool)
 | none=>none
 | some (j,w)=>match all[j]? with
  | some o=>(match o.dst with|some d=>some (d,w)|none=>none)
  | none=>none
def cop (all:List Oper) (k:Nat) (ids news:List Nat) (o:Oper):MOp:=⟨ci P k ids news o.op,o.dst,cgd all o.guard⟩
def cms (all:List Oper) (j:Nat) (tw:List RA):List Oper→List MOp
 | []=>[]
 | o::r=>match tw with
  | .k i n::tw'=>bif Nat.beq i j then cop P all n [] [] o::cms all (j+1) tw' r else cop P all 0 [] [] o::cms all (j+1) tw r
  | .c i n ids news::tw'=>bif Nat.beq i j then cop P all n ids news o::cms all (j+1) tw' r else cop P all 0 [] [] o::cms all (j+1) tw r
  | _=>cop P all 0 [] [] o::cms all (j+1) [] r
def ntO (j:Nat):List RA→List It
 | .n i n::rs=>bif Nat.beq i j then .nt n::ntO j rs else []
 | _=>[]
def ntR (j:Nat):List RA→List RA
 | .n i n::rs=>bif Nat.beq i j then ntR j rs else .n i n::rs
 | rs=>rs
@[irreducible] def gjt (t:Nat) (ms:List MOp):List MOp:=ms
@[irreducible] def gvt (d:Nat) (ds:List Nat) (ms:List MOp):List MOp:=ms
instance {d:Nat} {ds:List Nat} {ms:List MOp}:GV (gvt d ds ms) d ds:=⟨⟩
def gvd:List MOp→Nat
 | []=>0
 | [m]=>m.dst.getD 0
 | _::r=>gvd r
def gvs:List MOp→List Nat
 | []=>[]
 | [_]=>[]
 | m::r=>m.dst.getD 0::gvs r
def cit (j sk:Nat) (rs:List RA):List MOp→List It
 | []=>ntO j rs
 | m::r=>bif Nat.blt 0 sk then cit (j+1) (sk - 1) rs r else ntO j rs++(match ntR j rs with
  | .v i l::rs'=>bif Nat.beq i j then .grp (gvt (gvd ((m::r).take (l+1 - j))) (gvs ((m::r).take (l+1 - j))) ((m::r).take (l+1 - j)))::cit (j+1) (l - j) rs' r else .op m::cit (j+1) 0 (.v i l::rs') r
  | .u i l b::rs'=>bif Nat.beq i j then .grp b::cit (j+1) (l - j) rs' r else .op m::cit (j+1) 0 (.u i l b::rs') r
  | .w i l t::rs'=>bif Nat.beq i j then .grp (gjt t ((m::r).take (l+1 - j)))::cit (j+1) (l - j) rs' r else .op m::cit (j+1) 0 (.w i l t::rs') r
  | rs'=>.op m::cit (j+1) 0 rs' r)
def g3a (o:Oper):List Nat:=(o.after.toList.filter (Region.binds .any)).map (·.on)
def orM (ms:List Nat):List Nat→Nat→Nat
 | [],a=>a
 | x::r,a=>orM ms r (a||| (1 <<< x)||| ms.getD x 0)
def cmk (ms:List Nat):List (List Nat)→List Nat
 | []=>ms
 | a::r=>cmk (ms++[orM ms a 0]) r
def e3e (m:Nat):Nat→Nat→List Nat
 | _,0=>[]
 | i,n+1=>bif m.testBit i then i::e3e m (i+1) n else e3e m (i+1) n
def g54:MOp→Bool
 | ⟨.app ..,_,_⟩=>true
 | _=>false
def isLd:MOp→Bool
 | ⟨.ld ..,_,_⟩=>true
 | _=>false
def e1g (m:Nat):Nat→List MOp→Nat→List Nat
 | _,[],_=>[]
 | _,_,0=>[]
 | i,x::r,n+1=>bif isLd x&&!m.testBit i then (1000000+i)::e1g m (i+1) r n else e1g m (i+1) r n
def g39 (all:List MOp) (j:Nat):List MOp→List Nat→List (List Nat)
 | x::r,m::s=>(e3e m 0 j++(bif g54 x then e1g m 0 all j else []))::g39 all (j+1) r s
 | _,_=>[]
def crg (n:RN) (ops:List Oper) (draw:Bool):MC:=match draw,n.it with
 | true,_=>.regD (cms P ops 0 n.tw ops) (ops.map g3a) (g39 (cms P ops 0 n.tw ops) 0 (cms P ops 0 n.tw ops) (cmk [] (ops.map g3a)))
 | _,[]=>.reg (cms P ops 0 n.tw ops)
 | _,it=>.regI (cit 0 0 it (cms P ops 0 n.tw ops))
def fnd {α:Type} (k:Nat):List (Nat×α)→Option α
 | []=>none
 | (i,x)::r=>bif Nat.beq i k then some x else fnd k r
def fst:Code→Option Nat
 | .region i _ _=>some i
 | .seq a b=>(match fst a with|none=>fst b|x=>x)
 | .cond _ a b=>(match fst a with|none=>fst b|x=>x)
 | .block _ b=>fst b
 | .loop b=>(fst b).map (·+1000000)
 | .rangeFunc _ _ a b=>((match fst a with|none=>fst b|x=>x)).map (·+1000000)
 | _=>none
def kF (c:Code):Nat:=(fst c).getD 0
def cg (A:List (Nat×RN)) (C:List (Nat×MC)):Code→MC
 | .skip=>.skip
 | .ret=>.ret
 | .exit i=>.exit i
 | .region i ⟨ops⟩ d=>(match fnd (i+20000000) C with
  | some c=>c
  | none=>match fnd i A with
   | some n=>n.nt.foldr .note (crg P n ops d)
   | none=>crg P ⟨[],[],[]⟩ ops d)
 | .seq a b=>(match fnd (kF b+10000000) C with
  | some c=>.cut (cg A C a) c
  | none=>.seq (cg A C a) (cg A C b))
 | .cond c a b=>.cond (co false c) (cg A C a) (cg A C b)
 | .block i b=>.block i (cg A C b)
 | .loop b=>(match fnd (kF b+30000000) A with|some n=>n.nt|none=>[]).foldr .note (.loop ((fnd (kF b) C).getD .no))
 | .rangeFunc f ps a b=>(match fnd (kF b+30000000) A with|some n=>n.nt|none=>[]).foldr .note (.rngF (co false f) ps.toList (cg A C a) ((fnd (kF b) C).getD .no))
 | _=>.no
def sbc (k:Nat):Code→Option Code
 | .seq a b=>bif Nat.beq k (kF b+10000000) then some b else match sbc k a with|none=>sbc k b|x=>x
 | .cond _ a b=>(match sbc k a with|none=>sbc k b|x=>x)
 | .block _ b=>sbc k b
 | .loop b=>bif Nat.beq k (kF b) then some b else sbc k b
 | .rangeFunc _ _ a b=>bif Nat.beq k (kF b) then some b else match sbc k a with|none=>sbc k b|x=>x
 | _=>none
def sbr (k:Nat):Code→Option (List Oper)
 | .region i ops _=>bif Nat.beq k i then some ops.toList else none
 | .seq a b|.cond _ a b|.rangeFunc _ _ a b=>(match sbr k a with|none=>sbr k b|x=>x)
 | .block _ b|.loop b=>sbr k b
 | _=>none
def cT (f:Func) (A:List (Nat×RN)) (C:List (Nat×MC)):MC:=cg P A C (f.body.getD .skip)
def cK (f:Func) (A:List (Nat×RN)) (C:List (Nat×MC)) (k:Nat):MC:=(sbc k (f.body.getD .skip)).elim .no (cg P A C)
def cG (f:Func) (A:List (Nat×RN)) (r j l:Nat):List MOp:=(sbr r (f.body.getD .skip)).elim [] fun ops=>((cms P ops 0 ((fnd r A).elim [] (·.tw)) ops).drop j).take (l+1 - j)
end
@[reducible,go_sem] def rdc {α:Type} (x:α) {y:α} (h:x=y:=by conv=>lhs;reduce;(try simp only [e2w,f2c,List.append_eq,wA,wH])):α:=y
def crs (P:Program) (f:Func):List RS:=f.results.toList.map fun r=>match r with
 | .tmp t=>.t t
 | .cell a t=>.c a (tag P t)
theorem wX {α:Type} {F:Option α} {P:Program} {f:Nat} {fn:Func} {args:List V} {H:Heap} {RV:α→V} {HV:α→Heap} (hf:P.funcs[f]?=some fn) (A:List (Nat×RN):=[]) (C:List (Nat×MC):=[]) (ns:List a4y:=[]) (rids:List Nat:=[]) {mc:MC} {rs:List RS}
  (he:cT P fn A C=mc:=by conv=>lhs;reduce;(try simp only [e2w,f2c,List.append_eq,wA,wH])) (hr:crs P fn=rs:=by conv=>lhs;reduce;(try simp only [e2w]))
  (h:∀(Q:α→Prop) (Q':V→Heap→Prop),Ok F Q→(∀z,Q z→Q' (RV z) (HV z))→∀M:a10,M.go ⟨P,H,a2j H ns rids rs Q',fun _ _=>False,a2j H ns rids rs Q'⟩ mc [] ⟨a4t 0 args,H⟩) (hb:fn.body=some (fn.body.getD .skip):=by rfl) (hc:callable P f=true:=by kernel_rfl)
  (hok:mc.ok P fn.ntmps (fn.body.getD .skip)=true:=by kernel_rfl) (hnh:mc.nh=true:=by kernel_rfl) (hrs:a6s P rs fn.results.toList=true:=by kernel_rfl) (hn:Nat.ble args.length fn.ntmps=true:=by rfl) (hg:St.good ⟨a4t 0 args,H⟩=true:=by rfl):WI F P f args H RV HV :=
 ⟨fun Q Q' h1 h2=>a2g mc ns rids rs hf (h Q Q' h1 h2) hb hc hok hnh hrs hn hg⟩
mutual
def V.lf (R:Heap):V→Bool
 | .bool _|.int _ _|.str _|.nils|.nilp|.nilm|.nilf|.nili|.ifc _|.sl []=>true
 | .osl id _ _ _=>a0s id R
 | .agg cs|.tup cs=>V.lfL R cs
 | _=>false
def V.lfL (R:Heap):List V→Bool
 | []=>true
 | x::r=>x.lf R&&V.lfL R r
end
theorem V.lfL_iff {R:Heap}:∀{l:List V},V.lfL R l=true→∀x∈l,x.lf R=true
 | y::r,h,x,hx=>by
  simp only [V.lfL,wC] at h
  rcases wV.1 hx with rfl|hx
  ·exact h.1
  ·exact V.lfL_iff h.2 x hx
theorem Rd.lf {S S':Nat→Prop} {w:World} {R:Heap} {v:Value} {x:V} (h:Rd S w v x):x.lf R=true→Rd S' w v x:=by
 induction h with
 | agg vs cs hl hr ih=>exact fun hx=>.agg vs cs hl fun i c hc=>ih i c hc (V.lfL_iff (by simpa only [V.lf] using hx) c (z7 hc))
 | bool b=>exact fun _=>.bool b
 | int k n h=>exact fun _=>.int k n h
 | str s h=>exact fun _=>.str s h
 | nils=>exact fun _=>.nils
 | nilsl=>exact fun _=>.nilsl
 | slz a cap=>exact fun _=>.slz a cap
 | nilp=>exact fun _=>.nilp
 | nilm=>exact fun _=>.nilm
 | nilf=>exact fun _=>.nilf
 | nili=>exact fun _=>.nili
 | ifcn=>exact fun _=>.ifcn
 | ifcs t p=>exact fun _=>.ifcs t p
 | sl g o len cap k cur e fz xs h1 h2 h3 h4 h5 h6 h7 h8 _ =>
  intro hx
  cases xs with
  | nil=>cases h3;exact .slz _ _
  | cons a r=>simp [V.lf] at hx
 | _=>intro hx;simp [V.lf] at hx
theorem VR.lf {g g':Gh} {w:World} {R:Heap} {v:Value} {x:V} (h:VR g w v x) (ha:∀id,a0s id R=true→g.agree g' id):x.lf R=true→VR g' w v x:=by
 induction h with
 | rd h=>exact fun hx=>.rd (h.lf hx)
 | agg vs cs hl hr ih=>exact fun hx=>.agg vs cs hl fun i c hc=>ih i c hc (V.lfL_iff (by simpa only [V.lf] using hx) c (z7 hc))
 | tup vs cs hl hr ih=>exact fun hx=>.tup vs cs hl fun i c hc=>ih i c hc (V.lfL_iff (by simpa only [V.lf] using hx) c (z7 hc))
 | oslnil id k lo h=>exact fun hx=>.oslnil id k lo ((ha id (by simpa only [V.lf] using hx)).2.2.2.2 h)
 | osl id k lo len o c h ho hc hl hm =>
  intro hx
  obtain ⟨h1,h2,h3,h4⟩:=ha id (by simpa only [V.lf] using hx)
  rw [←h1]
  exact .osl id k lo len o c (fun h'=>h (h4.1 h')) (by rw [h2];exact ho) (by rw [h3];exact hc) hl hm
 | _=>intro hx;simp [V.lf] at hx
theorem c6w {P:Program} {f n k:Nat} {xs:List V} {t:Option TypeId} {args:List V} {r:V} {R:Heap} (h:a0o P f (args.map (V.shut n xs)) [] (fun r' H'=>r'=r∧H'=R))
  (hok:∀x∈args,x.sealOK n k xs.length) (hr:r.lf R=true) (hRn:find n R=none) (hR:∀id o,find id R=some o→∃k ys t,o=.arr k ys t∧∀y∈ys,∀c∈y.cells,c.lf []=true) :
  a0o P f args [(n,.arr k xs t)] (fun r' H'=>r'=r∧H'=(n,.arr k xs t)::R):=by
 refine ⟨h.1,fun g w vals hH hl hv=>?_⟩
 have hfn:find n [(n,a0g.arr k xs t)]=some (.arr k xs t):=by simp [find]
 have only:∀{m:Nat} {o':a0g},find m [(n,a0g.arr k xs t)]=some o'→m=n∧o'=.arr k xs t:=fun {m o'} hm=>by
  simp only [find] at hm
  cases hni:Nat.beq m n with
  | false=>rw [hni] at hm;cases hm
  | true=>rw [hni] at hm;cases hm;exact ⟨zR hni,rfl⟩
 have ho:=hH.obj n _ hfn
 have hH1:a3p P (g.sealed n) w []:=by
  refine ⟨fun n o hn=>by simp [find] at hn,fun i j o1 o2 hi _ _ _ _=>by simp [find] at hi,fun n o hn=>by simp [find] at hn,fun b hb=>?_,fun w' hk=>hH.tabs w' fun b hb=>hk b (.inl hb)⟩
  rcases hb with hb|⟨hn,rfl⟩
  ·exact hH.lt b hb
  ·exact ho.block hn
 refine (h.2 (g.sealed n) w vals hH1 (by simpa using hl) fun i x hx=>?_).mono ?_
 ·rw [xR] at hx
  cases hi:args[i]? with
  | none=>rw [hi] at hx;cases hx
  | some y=>rw [hi] at hx;cases hx;exact VR.shut ho (hv i y hi) (hok y (z7 hi))
 ·rintro en w' ⟨v,r',H',g',rfl,⟨er,eR⟩,hh,hvr,hf,_⟩
  rw [er] at hvr;rw [eR] at hh hf;clear er eR
  have noM:∀b,¬(⟨w,g.sealed n,[],0,[],[],[],g.sealed n,w⟩:Ctx).M b:=fun b ⟨id,o,ho,_⟩=>by cases ho
  have hold:∀b,b<w.heap.size→w'.heap[b]?=w.heap[b]?:=fun b hb=>hf.old b hb (noM b)
  have hkeep:a2d g.S w w':=fun b hb=>hold b (hH.lt b hb)
  have hsup:∀b,g.S b→g'.S b:=fun b hb=>hf.sup b (.inl (.inl hb))
  obtain ⟨g2,hg2⟩:∃g2:Gh,g2=⟨g.S,fun i=>bif a0s i R then g'.ρ i else g.ρ i,fun i=>bif a0s i R then g'.base i else g.base i,fun i=>bif a0s i R then g'.cap i else g.cap i,fun i=>bif a0s i R then g'.nil i else g.nil i⟩:=⟨_,rfl⟩
  have e0:g2.S=g.S:=by rw [hg2]
  have ein:∀i,a0s i R=true→g'.agree g2 i:=fun i hi=>by rw [hg2];simp [Gh.agree,hi]
  have eout:∀i,a0s i R=false→g.agree g2 i:=fun i hi=>by rw [hg2];simp [Gh.agree,hi]
  have hnR:a0s n R=false:=by
   cases hb:a0s n R with
   | false=>rfl
   | true=>obtain ⟨o,ho⟩:=a3k.1 hb;rw [hRn] at ho;cases ho
  have hfind:∀{m:Nat} {o:a0g},find m ((n,a0g.arr k xs t)::R)=some o→(m=n∧o=.arr k xs t)∨(m≠n∧find m R=some o∧a0s m R=true):=fun {m o} hm=>by
   simp only [find] at hm
   cases hni:Nat.beq m n with
   | true=>rw [hni] at hm;cases hm;exact .inl ⟨zR hni,rfl⟩
   | false=>rw [hni] at hm;exact .inr ⟨fun e=>(by rw [e,vB] at hni;cases hni),hm,a3k.2 ⟨_,hm⟩⟩
  have new:∀{m:Nat} {o:a0g},find m R=some o→¬g'.nil m→w.heap.size≤g'.ρ m:=fun {m o} hm hn=>(hf.own m o hm hn).1.resolve_right (noM _)
  have hnb:¬g.nil n→g.ρ n<w.heap.size:=fun hn=>ho.block hn
  have an:=eout n hnR
  refine ⟨v,r,_,g2,rfl,⟨rfl,rfl⟩,⟨fun m o hm=>?_,fun i j o1 o2 hi hj hni hnj heq=>?_,fun m o hm hnn hs=>?_,fun b hb=>?_,fun w2 hk=>?_⟩,hvr.lf ein hr,
   ⟨hf.os,hf.tape,hf.output,hf.size,fun b hb _=>hold b hb,fun m o hm hnn=>⟨?_,fun _ hn=>by cases hn⟩,fun b (hb:g.S b∨g.S b)=>by rw [e0];exact hb.elim id id,fun b hb=>⟨.inl (by rw [←e0];exact hb),fun _ hn=>by cases hn⟩,fun m o hm=>?_⟩,fun id hid=>?_⟩
  ·rcases hfind hm with ⟨rfl,rfl⟩|⟨_,hm,hi⟩
   ·refine ho.mono hkeep (fun b hb=>by rw [e0];exact hb) an (fun hn=>hold _ (hnb hn)) (fun i hi=>by simp [a0g.has] at hi) hf.size
   ·obtain ⟨k2,ys,t2,rfl,hys⟩:=hR m o hm
    obtain ⟨a1,a2,a3,a4⟩:=ein m hi
    rcases hh.obj m _ hm with ⟨q1,q2⟩|⟨q1,q2⟩
    ·exact .inl ⟨a4.2 q1,q2⟩
    ·refine .inr ⟨fun h=>q1 (a4.1 h),?_⟩
     rw [a1,a2,a3]
     obtain ⟨k1,⟨cur,e,fz,h2,h3,h4,h5⟩,h6,h7,h8⟩:=q2
     exact ⟨k1,⟨cur,e,fz,h2,h3,h4,fun i j x c hx hc=>(h5 i j x c hx hc).lf (hys x (z7 hx) c (z7 hc))⟩,h6,h7,h8⟩
  ·rcases hfind hi with ⟨rfl,rfl⟩|⟨_,hi2,hi'⟩<;>rcases hfind hj with ⟨rfl,rfl⟩|⟨_,hj2,hj'⟩
   ·rfl
   ·have a:=ein j hj'
    have:=new hj2 fun h=>hnj (a.2.2.2.2 h)
    rw [an.1,a.1] at heq
    have:=hnb fun h=>hni (an.2.2.2.2 h)
    omega
   ·have a:=ein i hi'
    have:=new hi2 fun h=>hni (a.2.2.2.2 h)
    rw [an.1,a.1] at heq
    have:=hnb fun h=>hnj (an.2.2.2.2 h)
    omega
   ·have a:=ein i hi'
    have b:=ein j hj'
    rw [a.1,b.1] at heq
    exact hh.inj i j _ _ hi2 hj2 (fun h=>hni (a.2.2.2.2 h)) (fun h=>hnj (b.2.2.2.2 h)) heq
  ·rw [e0] at hs
   rcases hfind hm with ⟨rfl,rfl⟩|⟨_,hm,hi⟩
   ·rw [an.1] at hs
    exact hH.sep _ _ hfn (fun h=>hnn (an.2.2.2.2 h)) hs
   ·have a:=ein m hi
    rw [a.1] at hs
    exact hh.sep m _ hm (fun h=>hnn (a.2.2.2.2 h)) (hsup _ hs)
  ·rw [e0] at hb;exact xF (hH.lt b hb) hf.size
  ·rw [e0] at hk
   exact hH.tabs w2 fun b hb=>(hk b hb).trans (hkeep b hb)
  ·rcases hfind hm with ⟨rfl,rfl⟩|⟨_,hm,hi⟩
   ·exact .inr ⟨m,_,hfn,fun h=>hnn (an.2.2.2.2 h),an.1.symm⟩
   ·have a:=ein m hi
    refine .inl ?_
    rw [a.1]
    exact new hm fun h=>hnn (a.2.2.2.2 h)
  ·obtain ⟨rfl,rfl⟩:=only hm;exact an
  ·refine eout id ?_
   cases hb:a0s id R with
   | false=>rfl
   | true =>
    obtain ⟨o,ho⟩:=a3k.1 hb
    simp only [find] at hid
    cases hni:Nat.beq id n with
    | true=>rw [hni] at hid;cases hid
    | false=>rw [hni] at hid;rw [vL,ho] at hid;cases hid
theorem d8i {α β:Type} (f:α→β) (l:List α):(l.map f).take l.length=l.map f:=zP (by rw [wL];exact vI _)
end Go.Ab