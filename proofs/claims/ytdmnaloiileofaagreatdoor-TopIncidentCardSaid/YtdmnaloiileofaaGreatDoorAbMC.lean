/- The abstract layer, part 11: code, and calls. -/
import Derived.Test.YtdmnaloiileofaaGreatDoorAbSndM
import Derived.Lib.Builder
import Derived.Lib.UnsafeStr
import Derived.Sort.Grow
import Derived.Deep.Draws
import Derived.Shelf.RegionOpenPlain
import Derived.KernelRfl
import Derived.ChangeArms
import Derived.ChangeShapes
import Derived.WideKeyArgs
import Derived.ChangeSame
import Derived.WideShapes
import Derived.Stop.LaidErr
import Derived.Sort.Row
import Derived.Laws.IdiomCopy
import Derived.Lib.SlicesCompact
import Derived.Deep.OwnRows
import Derived.Lib.Overlaps
import Derived.Shelf.SlicesE.DeleteFunc
import Derived.Lib.ItoaLen
import Derived.Lib.AtoiAllCases
import Derived.Lib.SmallJoins
import Derived.Shelf.Strings.Split
set_option linter.all false
namespace Go.Ab
open Go.RowKit
inductive MC where
 | skip
 | ret
 | exit (id:Nat)
 | reg (ms:List MOp)
 | regI (its:List It)
 | regD (ms:List MOp) (aft anc:List (List Nat))
 | seq (a b:MC)
 | cut (a b:MC)
 | cond (c:Opd) (t e:MC)
 | block (id:Nat) (b:MC)
 | loop (b:MC)
 | note (n:a4x) (b:MC)
 | rngF (g:Opd) (ps:List Nat) (a b:MC)
 | no
 | hnote (T:St→(St→Prop)→Prop) (b:MC)
def d4m (n:Nat):List Nat→Bool
 | []=>true
 | x::r=>Nat.blt x n&&d4m n r
theorem c3z {n:Nat}:∀{l:List Nat},d4m n l=true→∀p∈l,p<n
 | x::r,h,p,hp=>by
  simp only [d4m,wE] at h
  rcases wY.1 hp with e|hp
  ·subst e;have:=h.1;simp [Nat.blt] at this;omega
  ·exact c3z h.2 p hp
def MC.flat:MC→Bool
 | .rngF _ _ _ _=>false
 | .hnote _ _=>false
 | .seq a b|.cut a b=>a.flat&&b.flat
 | .cond _ t e=>t.flat&&e.flat
 | .block _ b|.loop b|.note _ b=>b.flat
 | _=>true
def MC.nh:MC→Bool
 | .hnote _ _=>false
 | .seq a b|.cut a b=>a.nh&&b.nh
 | .cond _ t e=>t.nh&&e.nh
 | .block _ b|.loop b|.note _ b=>b.nh
 | _=>true
def MC.ok (P:Program) (nt:Nat):MC→Code→Bool
 | .note _ b,c=>b.ok P nt c
 | .hnote _ b,c=>b.ok P nt c
 | .no,_=>true
 | .skip,.skip=>true
 | .ret,.ret=>true
 | .exit i,.exit j=>Nat.beq i j
 | .reg ms,.region _ ops draw=>!draw&&ops.toList.all a3c&&a1p P nt ops ms ops.toList
 | .regI its,.region _ ops draw=>!draw&&ops.toList.all a3c&&a1p P nt ops (b2i its) ops.toList
 | .regD ms aft anc,.region _ ops draw=>draw&&ops.toList.all a3c&&P.follows .mixedOrders&&a1p P nt ops ms ops.toList&&b39 aft ops.toList&&b0s anc 0 aft anc&&b07 ms ms anc
 | .seq a b,.seq c d=>a.ok P nt c&&b.ok P nt d
 | .cut a b,.seq c d=>a.ok P nt c&&b.ok P nt d
 | .cond x t e,.cond y c d=>x.ok y&&t.ok P nt c&&e.ok P nt d
 | .block i b,.block j c=>Nat.beq i j&&b.ok P nt c
 | .loop b,.loop c=>b.ok P nt c
 | .rngF x ps a b,.rangeFunc y qs c d=>x.ok y&&b45 ps qs.toList&&d4m nt ps&&a.flat&&b.flat&&a.ok P nt c&&b.ok P nt d
 | _,_=>false
def b5v (c:Opd) (b:Bool) (σ:St):St :=
 match c with
 | .t s=>⟨put s (.bool b) σ.env,σ.heap⟩
 | _=>σ
def MWP (P:Program) (H0:Heap):MC→(St→Prop)→(Nat→St→Prop)→(St→Prop)→St→Prop
 | .skip,K,_,_,σ=>K σ
 | .ret,_,_,R,σ=>R σ
 | .exit id,_,X,_,σ=>X id σ
 | .reg ms,K,_,_,σ=>runN P H0 ms σ K
 | .regI its,K,_,_,σ=>c0e P H0 its σ K
 | .regD ms _ anc,K,_,_,σ=>c6y P H0 ms [] σ fun log σ'=>a3h H0 σ 0 anc log.reverse=true∧K σ'
 | .seq a b,K,X,R,σ=>MWP P H0 a (fun σ'=>MWP P H0 b K X R σ') X R σ
 | .cut a b,K,X,R,σ=>Lk (∃(α:Type) (I:α→St) (p:α→Prop) (ns:List a4x),MWP P H0 a (fun σ'=>Lk (a0q H0 ns σ' fun σ'=>∃y,p y∧a0u (I y) σ')) X R σ∧∀y,p y→factsSt (I y)→MWP P H0 b K X R (I y))
 | .cond c t e,K,X,R,σ=>match c.ev σ.env with
  | .bool b=>a4n b true (MWP P H0 t K X R (b5v c true σ)) (MWP P H0 e K X R (b5v c false σ))
  | _=>False
 | .block id b,K,X,R,σ=>MWP P H0 b K (fun i σ'=>bif Nat.beq i id then K σ' else X i σ') R σ
 | .loop b,K,X,R,σ=>Lk (∃(α:Type) (I:α→St) (p:α→Prop) (μ:α→Nat) (ns:List a4x),(a0q H0 ns σ fun σ'=>∃x,p x∧a0u (I x) σ') ∧
   ∀x,p x→factsSt (I x)→MWP P H0 b (fun σ'=>Lk (a0q H0 ns σ' fun σ'=>∃y,p y∧μ y<μ x∧a0u (I y) σ')) X R (I x))
 | .note n b,K,X,R,σ=>a0y H0 n σ fun σ'=>MWP P H0 b K X R σ'
 | .rngF s ps a b,K,X,R,σ=>match s.ev σ.env with
  | .fn (.func gf) caps=>Lk (∃(Hc:Heap) (xss:List (List V)) (pins:List Nat) (α:Type) (I:Nat→α→Heap) (p:Nat→α→Prop) (ns:List a4x),
    b89 P gf caps Hc xss∧a0u ⟨[],Hc⟩ σ∧b9o pins σ.env=true∧(∀xs∈xss,xs.length=ps.length∧V.withinL [] xs=true)∧(∃x,p 0 x∧a0u ⟨[],I 0 x⟩ σ∧∀q∈Hc,find q.1 (I 0 x)=none) ∧
    (∀k x xs,xss[k]?=some xs→p k x→b0i (I k x)→MWP P (b7i H0 pins) a (fun σ1=>MWP P (b7i H0 pins) b (fun σ'=>Lk (a0q (b7i H0 pins) ns σ' fun σ'=>∃y,p (k+1) y∧a0u ⟨[],I (k+1) y⟩ σ'))
     (fun i σ'=>X i ⟨σ.env,σ'.heap⟩) (fun σ'=>R ⟨σ.env,σ'.heap⟩) σ1) (fun _ _=>False) (fun _=>False) ⟨b5k ps xs σ.env,I k x⟩) ∧
    (∀x,p xss.length x→K ⟨σ.env,I xss.length x⟩))
  | _=>False
 | .no,_,_,_,_=>False
 | .hnote T b,K,X,R,σ=>T σ fun σ'=>MWP P H0 b K X R σ'
section
variable {P:Program} {c:Ctx}
theorem exists_least (p:Nat→Prop) (h:∃n,p n):∃n,p n∧∀m,p m→n≤m:=by
 obtain ⟨n,hn⟩:=h
 induction n using Nat.strongRecOn with
 | _ n ih =>
  by_cases hm:∃m,m<n∧p m
  ·obtain ⟨m,h1,h2⟩:=hm
   exact ih m h1 h2
  ·exact ⟨n,hn,fun m hp=>Nat.le_of_not_lt fun hlt=>hm ⟨m,hlt,hp⟩⟩
open Classical in
theorem wpIn_loop' {F:Fence} {n:Nat} {Q:Exit→Act→World→Prop} {body:Code} {α:Type} (I:α→Act→World→Prop) (μ:α→Nat) {a:Act} {w:World} (h0:∃x,I x a w)
  (round:∀x a w,I x a w→body.wpIn F n P (Exit.then (fun a' w'=>∃y,I y a' w'∧μ y<μ x) Q) a w):(Code.loop body).wpIn F n P Q a w:=by
 let p:Act→World→Nat→Prop:=fun a w n=>∃x,I x a w∧μ x=n
 let m:Act→World→Nat:=fun a w=>if h:∃n,p a w n then Classical.choose (exists_least _ h) else 0
 refine wpIn_loop (fun a w=>∃x,I x a w) m h0 fun a w hx=>?_
 have hex:∃n,p a w n:=by obtain ⟨x,hx⟩:=hx;exact ⟨_,x,hx,rfl⟩
 have hm:m a w=Classical.choose (exists_least _ hex):=by simp [m,hex]
 obtain ⟨⟨x,hI,hμ⟩,_⟩:=Classical.choose_spec (exists_least _ hex)
 refine wpIn_mono (round x a w hI) fun e a' w' hq=>?_
 cases e with
 | normal =>
  obtain ⟨y,hy,hlt⟩:=hq
  refine ⟨⟨y,hy⟩,?_⟩
  have hex':∃n,p a' w' n:=⟨_,y,hy,rfl⟩
  have hm':m a' w'=Classical.choose (exists_least _ hex'):=by simp [m,hex']
  have:=(Classical.choose_spec (exists_least _ hex')).2 (μ y) ⟨y,hy,rfl⟩
  rw [hm',hm,←hμ]
  omega
 | _=>exact hq
theorem b9r {g:Gh} {σ:St} {a:Act} {w:World} {x:Opd} {b:Bool} (h:Rel P c g σ a w) (hx:x.ev σ.env=.bool b):b5v x b σ=σ:=by
 cases x with
 | t s=>simp only [b5v,a5o (b0c hx)]
 | _=>rfl
def a8d (P:Program) (c:Ctx):MC→Prop
 | .hnote T b=>(∀(K:St→Prop) (c':Ctx) (g:Gh) (σ:St) (a:Act) (w:World),c.le c'→Rel P c' g σ a w→T σ K→∃g' σ',K σ'∧Rel P c' g' σ' a w)∧a8d P c b
 | .seq a b|.cut a b=>a8d P c a∧a8d P c b
 | .cond _ t e=>a8d P c t∧a8d P c e
 | .block _ b|.loop b|.note _ b=>a8d P c b
 | _=>True
theorem a8d.of_nh:∀{mc:MC},mc.nh=true→a8d P c mc
 | .hnote _ _,h=>by cases h
 | .seq a b,h=>by simp only [MC.nh,wE] at h;exact ⟨a8d.of_nh h.1,a8d.of_nh h.2⟩
 | .cut a b,h=>by simp only [MC.nh,wE] at h;exact ⟨a8d.of_nh h.1,a8d.of_nh h.2⟩
 | .cond _ t e,h=>by simp only [MC.nh,wE] at h;exact ⟨a8d.of_nh h.1,a8d.of_nh h.2⟩
 | .block _ b,h=>by simp only [MC.nh] at h;exact a8d.of_nh (mc:=b) h
 | .loop b,h=>by simp only [MC.nh] at h;exact a8d.of_nh (mc:=b) h
 | .note _ b,h=>by simp only [MC.nh] at h;exact a8d.of_nh (mc:=b) h
 | .skip,_|.ret,_|.exit _,_|.reg _,_|.regI _,_|.regD _ _ _,_|.rngF _ _ _ _,_|.no,_=>trivial
theorem MC.flat_nh:∀{mc:MC},mc.flat=true→mc.nh=true
 | .hnote _ _,h=>by cases h
 | .seq a b,h=>by simp only [MC.flat,wE] at h;simp only [MC.nh,MC.flat_nh h.1,MC.flat_nh h.2,w6]
 | .cut a b,h=>by simp only [MC.flat,wE] at h;simp only [MC.nh,MC.flat_nh h.1,MC.flat_nh h.2,w6]
 | .cond _ t e,h=>by simp only [MC.flat,wE] at h;simp only [MC.nh,MC.flat_nh h.1,MC.flat_nh h.2,w6]
 | .block _ b,h=>by simp only [MC.flat] at h;simp only [MC.nh,MC.flat_nh (mc:=b) h]
 | .loop b,h=>by simp only [MC.flat] at h;simp only [MC.nh,MC.flat_nh (mc:=b) h]
 | .note _ b,h=>by simp only [MC.flat] at h;simp only [MC.nh,MC.flat_nh (mc:=b) h]
 | .skip,_|.ret,_|.exit _,_|.reg _,_|.regI _,_|.regD _ _ _,_|.rngF _ _ _ _,_|.no,_=>rfl
theorem a8d.mono {c':Ctx} (hl:c.le c'):∀{mc:MC},a8d P c mc→a8d P c' mc
 | .hnote _ b,h=>⟨fun K c2 g σ a w h2=>h.1 K c2 g σ a w (hl.trans h2),a8d.mono hl h.2⟩
 | .seq a b,h=>⟨a8d.mono hl h.1,a8d.mono hl h.2⟩
 | .cut a b,h=>⟨a8d.mono hl h.1,a8d.mono hl h.2⟩
 | .cond _ t e,h=>⟨a8d.mono hl h.1,a8d.mono hl h.2⟩
 | .block _ b,h=>a8d.mono (mc:=b) hl h
 | .loop b,h=>a8d.mono (mc:=b) hl h
 | .note _ b,h=>a8d.mono (mc:=b) hl h
 | .skip,_|.ret,_|.exit _,_|.reg _,_|.regI _,_|.regD _ _ _,_|.rngF _ _ _ _,_|.no,_=>trivial
def d4p (P:Program) (r:Option Nat) (mc:MC):Prop :=
 ∀ ⦃n:Nat⦄ ⦃c:Ctx⦄ ⦃code:Code⦄ ⦃Q:Exit→Act→World→Prop⦄ ⦃K:St→Prop⦄ ⦃X:Nat→St→Prop⦄ ⦃R:St→Prop⦄ ⦃g:Gh⦄ ⦃σ:St⦄ ⦃a:Act⦄ ⦃w:World⦄,a8d P c mc→(∀a w,¬Q .outgrown a w)→mc.ok P c.nt code=true→Rel P c g σ a w→MWP P c.H0 mc K X R σ →
  (∀c' σ g a w,c.le c'→K σ→Rel P c' g σ a w→Q .normal a w)→(∀c' i σ g a w,c.le c'→X i σ→Rel P c' g σ a w→Q (.exit i) a w)→(∀c' σ g a w,c.le c'→R σ→Rel P c' g σ a w→Q .ret a w)→code.wpIn (WF r) n P Q a w
section
variable {g:Gh} {w w':World} {H:Heap} {c c2 c':Ctx} {ds:List Deferred}
theorem b8r (h:a3p P g w H) (hf:Frm c g w H) (hd:Dfr c w ds) (e0:c2.w0=c.w0) (eg:c2.g0=c.g0) (eh:c2.hm=c.hm) (hgp:∀b,c2.gp.S b→g.S b) (hpar:∀id o,find id c2.H0=some o→c2.gp.agree g id)
  (hos:w'.os=w.os) (ht:w'.tape=w.tape) (ho:w'.output=w.output) (hsz:w.heap.size≤w'.heap.size) (hb:∀b,b<w.heap.size→c.free b→w'.heap[b]?=w.heap[b]?) (hfr:∀b,b<w.heap.size→(g.S b∨d4b g H b)→c.free b→c2.free b) :
  a3p P g w' H∧Frm c2 g w' H∧a2e g.S w w' :=
 ⟨(h.other hf hsz hb).1,hf.other h hd e0 eg eh hgp hpar hos ht ho hsz hb hfr,(h.other hf hsz hb).2⟩
theorem c1m (hl:c.le c') (h:a3p P g w H) (hf:Frm c' g w H) (hd:Dfr c' w ds):Frm c g w H∧Dfr c w c.dfr:=by
 obtain ⟨k,ek⟩:=hl.kp
 have hfr:∀b,c'.free b→c.free b:=fun b hb o ho=>hb o (by rw [ek];exact zU _ ho)
 refine ⟨hf.other h hd hl.w0.symm hl.g0.symm hl.hm.symm (fun b hS=>hf.sup b (.inr (by rw [hl.gp];exact hS))) (fun id o ho=>?_) rfl rfl rfl (vJ _) (fun _ _ _=>rfl) (fun b _ _=>hfr b),rfl,fun b o ho=>?_,?_⟩
 ·rw [←hl.gp];exact hf.par id o (by rw [hl.H0];exact ho)
 ·have:=hd.2.1 b o (by rw [ek];exact zU _ ho)
  simp only [Ctx.M,hl.w0,hl.hm,hl.g0] at this ⊢;exact this
 ·have:=hd.2.2
  rwa [hl.gp,hl.wp] at this
end
theorem b7w {α:Type} {n:Nat} {x:α}:∀{l:List (Nat×α)},find n l=some x→(n,x)∈l
 | (m,y)::r,h=>by
  simp only [find] at h
  cases hb:Nat.beq n m with
  | true=>rw [hb] at h;cases h;rw [zR hb];exact xG
  | false=>rw [hb] at h;exact xA _ (b7w h)
open Classical in
theorem d02 (g:Gh) (Hc:Heap):∃bl:List Nat,∀b,b∈bl↔d4b g Hc b:=by
 have key:∀l:List Nat,∃bl:List Nat,∀b,b∈bl↔∃id,id∈l∧(∃o,find id Hc=some o)∧¬g.nil id∧g.ρ id=b:=fun l=>by
  induction l with
  | nil=>exact ⟨[],fun b=>by simp⟩
  | cons i r ih =>
   obtain ⟨bl,h⟩:=ih
   by_cases hc:(∃o,find i Hc=some o)∧¬g.nil i
   ·refine ⟨g.ρ i::bl,fun b=>?_⟩
    rw [wY,h]
    constructor
    ·rintro (rfl|⟨id,h1,h2⟩)
     ·exact ⟨i,by simp,hc.1,hc.2,rfl⟩
     ·exact ⟨id,by simp [h1],h2⟩
    ·rintro ⟨id,h1,h2,h3,h4⟩
     rcases wY.1 h1 with rfl|h1
     ·exact .inl h4.symm
     ·exact .inr ⟨id,h1,h2,h3,h4⟩
   ·refine ⟨bl,fun b=>?_⟩
    rw [h]
    constructor
    ·rintro ⟨id,h1,h2⟩;exact ⟨id,by simp [h1],h2⟩
    ·rintro ⟨id,h1,h2,h3,h4⟩
     rcases wY.1 h1 with rfl|h1
     ·exact absurd ⟨h2,h3⟩ hc
     ·exact ⟨id,h1,h2,h3,h4⟩
 obtain ⟨bl,h⟩:=key (Hc.map (·.1))
 refine ⟨bl,fun b=>(h b).trans ⟨?_,?_⟩⟩
 ·rintro ⟨id,_,⟨o,h1⟩,h2,h3⟩;exact ⟨id,o,h1,h2,h3⟩
 ·rintro ⟨id,o,h1,h2,h3⟩;exact ⟨id,vE.2 ⟨(id,o),b7w h1,rfl⟩,⟨o,h1⟩,h2,h3⟩
theorem c4q (s:Opd) (ps:List Nat) (a b:MC) (ha:∀l,a.flat=true→d4p P (some l) a) (hb:∀l,b.flat=true→d4p P (some l) b):d4p P none (.rngF s ps a b):=by
 intro n c code Q K X R g σ ac w hN hQ hok hR h hK hX hT
 cases code<;>try (simp [MC.ok] at hok;done)
 rename_i y qs casg cbody
 simp only [MC.ok,wE] at hok
 obtain ⟨⟨⟨⟨⟨⟨h1,h2⟩,h3⟩,h4⟩,h5⟩,h6⟩,h7⟩:=hok
 have hps:=b44 h2
 simp only [MWP] at h
 split at h
 case h_2=>exact h.elim
 rename_i gf caps hev
 have hv:=Opd.vr hR h1
 rw [hev] at hv
 obtain ⟨lb,ev,hlb,hvl⟩:=hv.fn_inv
 obtain ⟨Hc,xss,pins,α,I,p,ns,⟨hcb,hit⟩,hsc,hpin,hxs,⟨x0,hp0,hs0,hdis⟩,round,hdone⟩:=Lk.out h
 have hRc:=hR.subSt hsc
 obtain ⟨bl,hbl⟩:=d02 g Hc
 have hblw:∀k,k∈bl→k<w.heap.size∧c.free k∧(c.w0.heap.size≤k∨c.M k)∧¬g.S k:=fun k hk=>by
  obtain ⟨id,o,h1,h2,rfl⟩:=(hbl k).1 hk
  exact ⟨(hRc.hp.obj id o h1).block h2,(hRc.fr.own id o h1 h2).2,(hRc.fr.own id o h1 h2).1,hRc.hp.sep id o h1 h2⟩
 refine wpIn_rangeFunc ?_
 intro fn _
 obtain ⟨rec,hrec⟩:∃rec:LoopState→Option Code→Loop,rec=fun st pe=>{ state:=st,pending:=pe,fn,tmps:=ac.tmps,params:=qs,assign:=casg,body:=cbody,defers:=w.heap.size }:=⟨_,rfl⟩
 obtain ⟨W1,hW1⟩:∃W1,(w.alloc (.deferred (some []))).alloc (.loop (rec .ready none))=W1:=⟨_,rfl⟩
 have hsz1:W1.heap.size=w.heap.size+2:=by rw [←hW1];simp
 have hL1:W1.heap[w.heap.size+1]?=some (.loop (rec .ready none)):=by
  rw [←hW1];have:=World.alloc_heap_new (w.alloc (.deferred (some []))) (.loop (rec .ready none));rwa [World.size_alloc] at this
 have hK1:W1.heap[w.heap.size]?=some (.deferred (some [])):=by
  rw [←hW1];exact (Below.heap_alloc _ _ _ (by simp)).trans (World.alloc_heap_new w _)
 have hO1:∀k,k<w.heap.size→W1.heap[k]?=w.heap[k]?:=fun k hk=>by
  rw [←hW1];exact (Below.heap_alloc _ _ _ (by simp;omega)).trans (Below.heap_alloc _ _ _ hk)
 obtain ⟨cJ,hcJ⟩:∃cJ:(Nat→Obj)→LoopState→Option Code→Ctx,cJ=fun cs st pe=>{ c with H0:=b7i c.H0 pins,gp:=g,wp:=w,dfr:=[],kp:=(w.heap.size+1,.loop (rec st pe))::(w.heap.size,.deferred (some []))::(bl.map (fun b=>(b,cs b))++c.kp) }:=⟨_,rfl⟩
 have hkpw:∀k o,(k,o)∈c.kp→k<w.heap.size:=fun k o ho=>(zF.1 (hR.dfr.2.1 k o ho).2).1
 have hkpt:∀(cs:Nat→Obj) k o,(k,o)∈(w.heap.size,Obj.deferred (some []))::(bl.map (fun b=>(b,cs b))++c.kp)→k≠w.heap.size+1:=fun cs k o ho=>by
  rcases wY.1 ho with e|ho
  ·cases e;omega
  rcases wL.1 ho with ho|ho
  ·obtain ⟨q,hq,e⟩:=vE.1 ho
   cases e;have:=(hblw k hq).1;omega
  ·have:=hkpw k o ho;omega
 have hkp2:∀(cs:Nat→Obj) k o,(k,o)∈(w.heap.size,Obj.deferred (some []))::c.kp→(k,o)∈(w.heap.size,Obj.deferred (some []))::(bl.map (fun b=>(b,cs b))++c.kp):=fun cs k o ho=>by
  rcases wY.1 ho with e|ho
  ·rw [e];exact xG
  ·exact xA _ (zU _ ho)
 have hfree:∀cs st pe k,(cJ cs st pe).free k↔(k≠w.heap.size+1∧k≠w.heap.size∧k∉bl∧c.free k):=fun cs st pe k=>by
  rw [hcJ]
  constructor
  ·intro h
   exact ⟨fun e=>h _ (by rw [e];exact xG),fun e=>h _ (by rw [e];exact xA _ xG),fun e=>h (cs k) (xA _ (xA _ (List.mem_append_left _ (vE.2 ⟨k,e,rfl⟩)))),fun o ho=>h o (xA _ (xA _ (zU _ ho)))⟩
  ·rintro ⟨e1,e2,e4,e3⟩ o ho
   rcases wY.1 ho with e|ho
   ·exact e1 (by cases e;rfl)
   rcases wY.1 ho with e|ho
   ·exact e2 (by cases e;rfl)
   rcases wL.1 ho with ho|ho
   ·obtain ⟨q,hq,e⟩:=vE.1 ho
    cases e;exact e4 hq
   ·exact e3 o ho
 have hsupJ:∀{cs st pe gb W HH},Frm (cJ cs st pe) gb W HH→∀k,g.S k→gb.S k:=fun hf k hS=>hf.sup k (.inr (by rw [hcJ];exact hS))
 have hparJ:∀{cs st pe gb W HH},Frm (cJ cs st pe) gb W HH→∀cs' st' pe' id o,find id (cJ cs' st' pe').H0=some o→(cJ cs' st' pe').gp.agree gb id:=fun hf cs' st' pe' id o ho=>by
  have:=hf.par id o (by rw [hcJ] at ho ⊢;exact ho)
  rw [hcJ] at this ⊢;exact this
 have turn:∀{cs st pe gb W HH} (st':LoopState) (pe':Option Code),a3p P gb W HH→Frm (cJ cs st pe) gb W HH→Dfr (cJ cs st pe) W [] →
   a3p P gb (W.putObj (w.heap.size+1) (.loop (rec st' pe'))) HH∧Frm (cJ cs st' pe') gb (W.putObj (w.heap.size+1) (.loop (rec st' pe'))) HH∧Dfr (cJ cs st' pe') (W.putObj (w.heap.size+1) (.loop (rec st' pe'))) []∧a2e gb.S W (W.putObj (w.heap.size+1) (.loop (rec st' pe'))):=by
  intro cs st pe gb W HH st' pe' hh hf hd
  obtain ⟨k1,k2,k3⟩:=b8r (c2:=cJ cs st' pe') (w':=W.putObj (w.heap.size+1) (.loop (rec st' pe'))) hh hf hd (by rw [hcJ]) (by rw [hcJ]) (by rw [hcJ]) (fun k hS=>hsupJ hf k (by rw [hcJ] at hS;exact hS)) (hparJ hf cs st' pe') rfl rfl rfl (by simp)
   (fun k _ hk=>World.putObj_heap_other ((hfree cs st pe k).1 hk).1) (fun k _ _ hk=>(hfree cs st' pe' k).2 ((hfree cs st pe k).1 hk))
  have hl:W.heap[w.heap.size+1]?=some (.loop (rec st pe)):=(hd.2.1 _ _ (by rw [hcJ];exact xG)).2
  refine ⟨k1,k2,⟨by rw [hcJ],fun k o ho=>?_,fun k hS=>?_⟩,k3⟩
  ·rw [hcJ] at ho
   rcases wY.1 ho with e|ho'
   ·cases e
    exact ⟨by have:=(hd.2.1 (w.heap.size+1) _ (by rw [hcJ];exact xG)).1;rw [hcJ] at this ⊢;exact this,World.putObj_heap_same (zF.1 hl).1⟩
   ·have hne:k≠w.heap.size+1:=hkpt cs k o ho'
    have:=hd.2.1 k o (by rw [hcJ];exact xA _ ho')
    refine ⟨?_,(World.putObj_heap_other hne).trans this.2⟩
    have h0:=this.1
    rw [hcJ] at h0 ⊢;exact h0
  ·rw [hcJ] at hS
   have h0:=hd.2.2 k (by rw [hcJ];exact hS)
   refine (k3 k (hsupJ hf k hS)).trans ?_
   rw [hcJ] at h0 ⊢;exact h0
 obtain ⟨J,hJ⟩:∃J:Nat→World→Prop,J=fun k W=>∃cs gb y,p k y∧(⟨[],I k y⟩:St).good=true∧a3p P gb W (I k y)∧Frm (cJ cs .ready none) gb W (I k y)∧Dfr (cJ cs .ready none) W []:=⟨_,rfl⟩
 obtain ⟨Jx,hJx⟩:∃Jx:World→Prop,Jx=fun W=>∃cs gb HH jump,((jump=Code.ret∧R ⟨σ.env,HH⟩)∨∃i,jump=Code.exit i∧X i ⟨σ.env,HH⟩)∧a3p P gb W HH∧Frm (cJ cs .done (some jump)) gb W HH∧Dfr (cJ cs .done (some jump)) W []:=⟨_,rfl⟩
 have still:∀{cs st pe gb HH W W'},a3p P gb W HH→Frm (cJ cs st pe) gb W HH→Dfr (cJ cs st pe) W []→d0d (d4b g Hc) W W'→∃cs',a3p P gb W' HH∧Frm (cJ cs' st pe) gb W' HH∧Dfr (cJ cs' st pe) W' []:=by
  intro cs st pe gb HH W W' hh hf hd ⟨i1,i2,i3,i4,i5⟩
  obtain ⟨cs',hcs'⟩:∃cs':Nat→Obj,cs'=fun k=>(W'.heap[k]?).getD (.deferred none):=⟨_,rfl⟩
  have hfr:∀k,(cJ cs st pe).free k→(cJ cs' st pe).free k:=fun k h=>(hfree cs' st pe k).2 ((hfree cs st pe k).1 h)
  obtain ⟨k1,k2,k3⟩:=b8r (c2:=cJ cs' st pe) hh hf hd (by rw [hcJ]) (by rw [hcJ]) (by rw [hcJ]) (fun k hS=>hsupJ hf k (by rw [hcJ] at hS;exact hS)) (hparJ hf cs' st pe) i1 i2 i3 i4 (fun k hk hfk=>i5 k hk fun hb=>((hfree cs st pe k).1 hfk).2.2.1 ((hbl k).2 hb)) (fun k _ _ h=>hfr k h)
  have hW:∀k o,(k,o)∈(cJ cs st pe).kp→k<W.heap.size:=fun k o ho=>(zF.1 (hd.2.1 k o ho).2).1
  refine ⟨cs',k1,k2,by rw [hcJ],fun k o ho=>?_,fun k hS=>(k3 k (hsupJ hf k (by rw [hcJ] at hS;exact hS))).trans (by have:=hd.2.2 k (by rw [hcJ] at hS ⊢;exact hS);rw [hcJ] at this ⊢;exact this)⟩
  have out:k∉bl→(k,o)∈(cJ cs st pe).kp→((cJ cs' st pe).w0.heap.size≤k∨(cJ cs' st pe).M k)∧W'.heap[k]?=some o:=fun hk hm=>by
   have:=hd.2.1 k o hm
   refine ⟨?_,(i5 k (hW k o hm) fun hb=>hk ((hbl k).2 hb)).trans this.2⟩
   have h0:=this.1
   rw [hcJ] at h0 ⊢;exact h0
  rw [hcJ] at ho
  rcases wY.1 ho with e|ho
  ·cases e
   exact out (fun hk=>by have:=(hblw _ hk).1;omega) (by rw [hcJ];exact xG)
  rcases wY.1 ho with e|ho
  ·cases e
   exact out (fun hk=>by have:=(hblw _ hk).1;omega) (by rw [hcJ];exact xA _ xG)
  rcases wL.1 ho with ho|ho
  ·obtain ⟨q,hq,e⟩:=vE.1 ho
   cases e
   have hlt:=hW k (cs k) (by rw [hcJ];exact xA _ (xA _ (List.mem_append_left _ (vE.2 ⟨k,hq,rfl⟩))))
   have hlt':k<W'.heap.size:=by omega
   refine ⟨by rw [hcJ];exact (hblw k hq).2.2.1,?_⟩
   simp only [hcs',zI hlt',xW]
  ·exact out (fun hk=>(hblw _ hk).2.1 o ho) (by rw [hcJ];exact xA _ (xA _ (zU _ ho)))
 have fin:∀{cs st pe gb HH W} (o:Obj),a3p P gb W HH→Frm (cJ cs st pe) gb W HH→Dfr (cJ cs st pe) W [] →
   ∃c2,c.le c2∧Rel P c2 gb ⟨σ.env,HH⟩ { ac with defers:=[{ target:=.collected w.heap.size,args:=#[] }]++ac.defers } (W.putObj (w.heap.size+1) o):=by
  intro cs st pe gb HH W o hh hf hd
  refine ⟨{ c with dfr:={ target:=.collected w.heap.size,args:=#[] }::c.dfr,kp:=(w.heap.size,.deferred (some []))::c.kp },⟨rfl,rfl,rfl,rfl,rfl,rfl,rfl,⟨[_],rfl⟩,⟨[w.heap.size],rfl,by simp,fun D hD=>?_⟩⟩,?_⟩
  ·simp at hD;subst hD
   exact ⟨xG,fun o ho=>by have:=hkpw _ o ho;omega⟩
  have hgS:∀k,c.gp.S k→g.S k:=fun k hS=>hR.fr.sup k (.inr hS)
  obtain ⟨k1,k2,k3⟩:=b8r (c2:={ c with dfr:={ target:=.collected w.heap.size,args:=#[] }::c.dfr,kp:=(w.heap.size,.deferred (some []))::c.kp }) (w':=W.putObj (w.heap.size+1) o) hh hf hd (by rw [hcJ]) (by rw [hcJ]) (by rw [hcJ])
   (fun k hS=>hsupJ hf k (hgS k hS)) (fun id o1 ho=>(hR.fr.par id o1 ho).trans (by
    obtain ⟨o2,h2⟩:=(b0g (H0:=c.H0) (pins:=pins) (id:=id)).2 (.inr ⟨o1,ho⟩)
    have:=hparJ hf cs st pe id o2 (by rw [hcJ];exact h2)
    rw [hcJ] at this;exact this)) rfl rfl rfl (by simp) (fun k _ hk=>World.putObj_heap_other ((hfree cs st pe k).1 hk).1)
   (fun k _ _ hk o1 ho=>by
    obtain ⟨_,e2,_,e3⟩:=(hfree cs st pe k).1 hk
    rcases wY.1 ho with e|ho
    ·cases e;exact e2 rfl
    ·exact e3 o1 ho)
  have hkS:a2e g.S w (W.putObj (w.heap.size+1) o):=fun k hS=>(k3 k (hsupJ hf k hS)).trans (by have:=hd.2.2;rw [hcJ] at this;exact this k hS)
  refine ⟨hR.size,⟨by rw [hR.dfr.1];rfl,fun k o1 ho=>?_,fun k hS=>(hkS k (hgS k hS)).trans (hR.dfr.2.2 k hS)⟩,fun t x hx=>?_,k1,k2⟩
  ·have hne:k≠w.heap.size+1:=by
    rcases wY.1 ho with e|ho'
    ·cases e;omega
    ·have:=hkpw k o1 ho';omega
   have:=hd.2.1 k o1 (by rw [hcJ];exact xA _ (hkp2 cs k o1 ho))
   refine ⟨?_,(World.putObj_heap_other hne).trans this.2⟩
   have h0:=this.1
   rw [hcJ] at h0;exact h0
  ·obtain ⟨q1,q2⟩:=hR.env t x hx
   refine ⟨q1,q2.mono hkS (hsupJ hf) fun id hid=>?_⟩
   obtain ⟨o2,h2⟩:=(b0g (H0:=c.H0) (pins:=pins) (id:=id)).2 (.inl (a2y (b1w hpin hx) hid))
   have:=hparJ hf cs st pe id o2 (by rw [hcJ];exact h2)
   rw [hcJ] at this;exact this
 obtain ⟨cs0,hcs0⟩:∃cs0:Nat→Obj,cs0=fun k=>(W1.heap[k]?).getD (.deferred none):=⟨_,rfl⟩
 have h0:J 0 W1:=by
  rw [hJ]
  have hR0:a3p P g w (I 0 x0)∧Frm c g w (I 0 x0):=by
   have:=hR.subSt hs0
   exact ⟨this.hp,this.fr⟩
  have hnb:∀k,(g.S k∨d4b g (I 0 x0) k)→k∉bl:=fun k hk hb=>by
   rcases hk with hk|⟨id,o,h1,h2,rfl⟩
   ·exact (hblw k hb).2.2.2 hk
   ·obtain ⟨id',o',h3,h4,h5⟩:=(hbl _).1 hb
    have e:=hR.hp.inj id' id o' o (a8f hsc.2.2 h3) (a8f hs0.2.2 h1) h4 h2 h5
    subst e
    have:=hdis (id',o') (b7w h3)
    rw [h1] at this;cases this
  obtain ⟨k1,k2,k3⟩:=b8r (c2:=cJ cs0 .ready none) (w':=W1) hR0.1 hR0.2 hR.dfr (by rw [hcJ]) (by rw [hcJ]) (by rw [hcJ]) (fun k hS=>by rw [hcJ] at hS;exact hS) (fun id o _=>by rw [hcJ];exact Gh.agree.refl g id) (by rw [←hW1];rfl) (by rw [←hW1];rfl) (by rw [←hW1];rfl) (by omega)
   (fun k hk _=>hO1 k hk) (fun k hk hb hf=>(hfree _ _ _ k).2 ⟨by omega,by omega,hnb k hb,hf⟩)
  refine ⟨cs0,g,x0,hp0,hs0.1,k1,k2,by rw [hcJ],fun k o ho=>?_,fun k hS=>?_⟩
  ·rw [hcJ] at ho
   have hle:=hR.fr.size
   rcases wY.1 ho with e|ho
   ·cases e;exact ⟨.inl (by rw [hcJ];show c.w0.heap.size≤_;omega),hL1⟩
   rcases wY.1 ho with e|ho
   ·cases e;exact ⟨.inl (by rw [hcJ];exact hle),hK1⟩
   rcases wL.1 ho with ho|ho
   ·obtain ⟨q,hq,e⟩:=vE.1 ho
    cases e
    have hlt:=(hblw k hq).1
    refine ⟨by rw [hcJ];exact (hblw k hq).2.2.1,?_⟩
    have hlt':k<W1.heap.size:=by omega
    simp only [hcs0,zI hlt',xW]
   ·refine ⟨by rw [hcJ];exact (hR.dfr.2.1 k o ho).1,(hO1 k (hkpw k o ho)).trans (hR.dfr.2.1 k o ho).2⟩
  ·rw [hcJ] at hS ⊢;exact k3 k hS
 have hHR1:a3p P g W1 Hc∧a2e g.S w W1:=by
  have:=a3p.other (w':=W1) hRc.hp hRc.fr (by omega) fun k hk _=>hO1 k hk
  exact this
 have pinag:∀{cs st pe gb W HH},Frm (cJ cs st pe) gb W HH→∀t x,find t σ.env=some x→∀id,x.has id=true→g.agree gb id:=fun hf t x hx id hid=>by
  obtain ⟨o2,h2⟩:=(b0g (H0:=c.H0) (pins:=pins) (id:=id)).2 (.inl (a2y (b1w hpin hx) hid))
  have:=hparJ hf cs0 .ready none id o2 (by rw [hcJ];exact h2)
  rw [hcJ] at this;exact this
 have recAt:∀{cs st pe W ds},Dfr (cJ cs st pe) W ds→W.heap[w.heap.size+1]?=some (.loop (rec st pe)):=fun hd=>(hd.2.1 _ _ (by rw [hcJ];exact xG)).2
 have keepJ:∀{cs st pe W ds},Dfr (cJ cs st pe) W ds→a2e g.S w W:=fun hd=>by have:=hd.2.2;rw [hcJ] at this;exact this
 have rs:∀st pe st' pe',({ rec st pe with state:=st',pending:=pe' }:Loop)=rec st' pe':=fun _ _ _ _=>by rw [hrec]
 have rs1:∀st pe st',({ rec st pe with state:=st' }:Loop)=rec st' pe:=fun _ _ _=>by rw [hrec]
 refine ⟨w.heap.size+1,[{ target:=.collected w.heap.size,args:=#[] }],W1,{ target:=.fn (.func gf) lb,args:=#[.func (.yield (w.heap.size+1)) #[] #[]] },W1,gf,#[.func (.yield (w.heap.size+1)) #[] #[]]++lb,W1,?_,?_,fun _ _=>trivial,?_,fun hh=>by simp [WF,Fence.wide] at hh,?_⟩
 ·rw [←hW1,hrec];exact run_enterLoop_outer _ _ _ _ _
 ·simp only [resolve,ev]
  simp [Deferred.ofValue]
  rfl
 ·unfold callable at hcb
  split at hcb
  ·rename_i fn' hfn'
   simp only [wE,xV] at hcb
   have hnm:¬fn'.name = "runtime.NumGoroutine":=by simpa using hcb.1
   have hbb:¬fn'.body=none:=by intro h;rw [h] at hcb;simp at hcb
   simp [invoke,callFunc,hfn',hnm,hbb]
  ·cases hcb
 ·refine ((hit g W1 lb hHR1.1 hlb (fun i x hx=>(hvl i x hx).mono (g':=g) hHR1.2 (fun _ h=>h) fun _ _=>Gh.agree.refl _ _) (w.heap.size+1) J Jx ?_ ?_ ?_ h0).more (vH _)).mono ?_
  ·intro k W W' hj hs
   rw [hJ] at hj ⊢
   obtain ⟨cs,gb,y,hp,hgd,hh,hf,hd⟩:=hj
   obtain ⟨cs',k1,k2,k3⟩:=still hh hf hd hs
   exact ⟨cs',gb,y,hp,hgd,k1,k2,k3⟩
  ·intro W W' hj hs
   rw [hJx] at hj ⊢
   obtain ⟨cs,gb,HH,jump,hj,hh,hf,hd⟩:=hj
   obtain ⟨cs',k1,k2,k3⟩:=still hh hf hd hs
   exact ⟨cs',gb,HH,jump,hj,k1,k2,k3⟩
  ·intro k xs W vals hxk hvs hvv hj
   rw [hJ] at hj
   obtain ⟨cs,gb,y,hp,hgd,hh,hf,hd⟩:=hj
   have hl:=recAt hd
   obtain ⟨hxl,hxw⟩:=hxs xs (z6 hxk)
   have hy:=run_yield (P:=P) (args:=vals) hl (by rw [hrec];show vals.size=qs.size;rw [hvs,hxl,hps];simp)
   rw [hrec] at hy
   refine ⟨_,_,_,_,hy,roundIn_of_wpIn trivial ?_⟩
   have hE0:c62 c.nt gb W ac.tmps σ.env:=fun t x hx=>by
    obtain ⟨q1,q2⟩:=hR.env t x hx
    exact ⟨q1,q2.mono (keepJ hd) (hsupJ hf) (pinag hf t x hx)⟩
   obtain ⟨hE,hEs⟩:=hE0.puts (ps:=ps) (xs:=xs) (vs:=vals.toList) hR.size (c3z h3) (by simp [hvs]) (fun i x hx=>by
    have:=(hvv i x hx).mono (g':=gb) (fun _ _=>rfl) (hsupJ hf) fun id hid=>absurd (a2y (a3i.1 hxw x (z6 hx)) hid) (by simp)
    simpa [zC] using this)
   have hfold:(qs.zip vals).foldl (fun t (q,v)=>t.setIfInBounds q v) ac.tmps=(ps.zip vals.toList).foldl (fun t (p,v)=>t.setIfInBounds p v) ac.tmps:=by
    rw [←Array.foldl_toList,Array.toList_zip,hps]
   have hRb:Rel P (cJ cs .ready none) gb ⟨b5k ps xs σ.env,I k y⟩ { tmps:=(qs.zip vals).foldl (fun t (q,v)=>t.setIfInBounds q v) ac.tmps,defers:=[] } W:=by
    refine ⟨?_,hd,?_,hh,hf⟩
    ·show ((qs.zip vals).foldl _ ac.tmps).size=_
     rw [hfold,hEs,hcJ]
    ·show c62 _ gb W ((qs.zip vals).foldl _ ac.tmps) _
     rw [hfold,hcJ];exact hE
   have hfacts:b0i (I k y):=by
    have:Rel P (cJ cs .ready none) gb ⟨[],I k y⟩ { tmps:=(qs.zip vals).foldl (fun t (q,v)=>t.setIfInBounds q v) ac.tmps,defers:=[] } W:=⟨hRb.size,hRb.dfr,fun _ _ h=>(by cases h),hh,hf⟩
    exact (this.factsSt hgd).2
   have hm:=round k y xs hxk hp hfacts
   have hH0:∀cs st pe,(cJ cs st pe).H0=b7i c.H0 pins:=fun _ _ _=>by rw [hcJ]
   have hnt:∀cs st pe,(cJ cs st pe).nt=c.nt:=fun _ _ _=>by rw [hcJ]
   rw [←hH0 cs .ready none] at hm
   refine ha (w.heap.size+1) h4 (c:=cJ cs .ready none) (a8d.of_nh (MC.flat_nh h4)) (fun _ _ h=>h) (by rw [hnt];exact h6) hRb hm (fun c1 σ1 g1 a1 w1 hl1 hk1 hr1=>?_) (fun _ _ _ _ _ _ _ h=>h.elim) (fun _ _ _ _ _ _ h=>h.elim)
   obtain ⟨f1,d1⟩:=c1m hl1 hr1.hp hr1.fr hr1.dfr
   have d1':Dfr (cJ cs .ready none) w1 []:=by rw [hcJ] at d1 ⊢;exact d1
   obtain ⟨t1,t2,t3,t4⟩:=turn .busy none hr1.hp f1 d1'
   refine ⟨_,run_beginRound (recAt d1') (by rw [hrec]),?_⟩
   rw [rs1]
   obtain ⟨c2,hc2⟩:∃c2:Ctx,c2={ cJ cs .busy none with dfr:=a1.defers }:=⟨_,rfl⟩
   have toJ:∀{gx Wx Hx ds},a3p P gx Wx Hx→Frm c2 gx Wx Hx→Dfr c2 Wx ds→Frm (cJ cs .busy none) gx Wx Hx∧Dfr (cJ cs .busy none) Wx []:=fun hh hf hd=>by
    rw [hc2] at hf hd
    exact ⟨⟨hf.os,hf.tape,hf.output,hf.size,hf.old,hf.own,hf.sup,hf.sub,hf.par⟩,⟨by rw [hcJ],hd.2⟩⟩
   have hR2:Rel P c2 g1 σ1 a1 (w1.putObj (w.heap.size+1) (.loop (rec .busy none))):=by
    rw [hc2]
    refine ⟨?_,⟨rfl,t3.2⟩,fun t x hx=>?_,t1,⟨t2.os,t2.tape,t2.output,t2.size,t2.old,t2.own,t2.sup,t2.sub,t2.par⟩⟩
    ·rw [hr1.size,hl1.nt,hnt];exact (hnt cs .busy none).symm
    ·obtain ⟨q1,q2⟩:=hr1.env t x hx
     refine ⟨?_,q2.mono (g':=g1) t4 (fun _ h=>h) fun _ _=>Gh.agree.refl _ _⟩
     rw [hl1.nt,hnt] at q1
     show t<(cJ cs .busy none).nt
     rw [hnt];exact q1
   have h20:c2.H0=b7i c.H0 pins:=by rw [hc2];exact hH0 cs .busy none
   have h2n:c2.nt=c.nt:=by rw [hc2];exact hnt cs .busy none
   rw [hH0,←h20] at hk1
   have leave:∀(jump:Code) {c3:Ctx} {σ3:St} {g3:Gh} {a3:Act} {w3:World},c2.le c3→Rel P c3 g3 σ3 a3 w3→((jump=Code.ret∧R ⟨σ.env,σ3.heap⟩)∨∃i,jump=Code.exit i∧X i ⟨σ.env,σ3.heap⟩) →
     ∃v w',(Instr.endRound (w.heap.size+1) (some jump)).run P w3=.ok v w'∧((Ending.returned v=.returned (.bool true)∧J (k+1) w'∧d5q g Hc W w')∨(Ending.returned v=.returned (.bool false)∧Jx w')):=by
    intro jump c3 σ3 g3 a3 w3 hl3 hr3 hj
    obtain ⟨f3,d3⟩:=c1m hl3 hr3.hp hr3.fr hr3.dfr
    obtain ⟨f3,d3⟩:=toJ hr3.hp f3 d3
    obtain ⟨t1,t2,t3,t4⟩:=turn .done (some jump) hr3.hp f3 d3
    have hrun:=run_endRound (P:=P) (some jump) (recAt d3)
    simp only [Option.isNone_some,xL,if_false,rs] at hrun
    refine ⟨_,_,hrun,.inr ⟨rfl,?_⟩⟩
    rw [hJx]
    exact ⟨cs,g3,σ3.heap,jump,hj,t1,t2,t3⟩
   refine hb (w.heap.size+1) h5 (c:=c2) (a8d.of_nh (MC.flat_nh h5)) (fun _ _ h=>h) (by rw [h2n];exact h7) hR2 hk1 (fun c3 σ3 g3 a3 w3 hl3 hk3 hr3=>?_) (fun c3 i σ3 g3 a3 w3 hl3 hk3 hr3=>?_) (fun c3 σ3 g3 a3 w3 hl3 hk3 hr3=>?_)
   ·have hk3:=Lk.out hk3
    rw [←hl3.H0] at hk3
    obtain ⟨g4,σ4,⟨y',hp',hs'⟩,hr4⟩:=a8k hk3 hr3
    have hr4:=hr4.subSt hs'
    obtain ⟨f3,d3⟩:=c1m hl3 hr4.hp hr4.fr hr4.dfr
    obtain ⟨f3,d3⟩:=toJ hr4.hp f3 d3
    obtain ⟨t1,t2,t3,t4⟩:=turn .ready none hr4.hp f3 d3
    have hrun:=run_endRound (P:=P) none (recAt d3)
    simp only [Option.isNone_none,if_true,rs] at hrun
    refine ⟨_,_,hrun,.inl ⟨rfl,?_,fun q hS=>(keepJ t3 q hS).trans (keepJ hd q hS).symm,?_⟩⟩
    ·rw [hJ];exact ⟨cs,g4,y',hp',hs'.1,t1,t2,t3⟩
    ·intro q hq
     have hm:∀st pe,(q,cs q)∈(cJ cs st pe).kp:=fun st pe=>by
      rw [hcJ];exact xA _ (xA _ (List.mem_append_left _ (vE.2 ⟨q,(hbl q).2 hq,rfl⟩)))
     rw [(t3.2.1 q _ (hm _ _)).2,(hd.2.1 q _ (hm _ _)).2]
   ·exact leave (.exit i) hl3 hr3 (.inr ⟨i,rfl,hk3⟩)
   ·exact leave .ret hl3 hr3 (.inl ⟨rfl,hk3⟩)
  ·rintro e W' ⟨⟨v,rfl⟩,hj|hj⟩
   ·rw [hJ] at hj
    obtain ⟨cs,gb,y,hp,hgd,hh,hf,hd⟩:=hj
    obtain ⟨c2,hl2,hr2⟩:=fin (.loop { rec .ready none with state:=.exhausted }) hh hf hd
    exact ⟨none,_,by have:=run_endLoop (P:=P) (recAt hd) (by rw [hrec];simp);rw [hrec] at this ⊢;exact this,hK c2 _ _ _ _ hl2 (hdone y hp) hr2⟩
   ·rw [hJx] at hj
    obtain ⟨cs,gb,HH,jump,hj,hh,hf,hd⟩:=hj
    have hrun:=run_endLoop (P:=P) (recAt hd) (by rw [hrec];simp)
    have hpe:(rec .done (some jump)).pending=some jump:=by rw [hrec]
    rw [hpe] at hrun
    obtain ⟨oo,hrun⟩:∃oo,(Instr.endLoop (w.heap.size+1)).run P W'=.ok (some jump) (W'.putObj (w.heap.size+1) oo):=⟨_,hrun⟩
    obtain ⟨c2,hl2,hr2⟩:=fin oo hh hf hd
    refine ⟨some jump,_,hrun,?_⟩
    rcases hj with ⟨rfl,hj⟩|⟨i,rfl,hj⟩
    ·exact wpIn_ret (hT c2 _ _ _ _ hl2 hj hr2)
    ·exact wpIn_exit (hX c2 i _ _ _ _ hl2 hj hr2)
theorem MC.sound {r:Option Nat}:∀(mc:MC),(r=none∨mc.flat=true)→d4p P r mc
 | .skip,_=>by
  intro n c code Q K X R g σ a w hN hQ hok hR h hK hX hT
  cases code<;>try (simp [MC.ok] at hok;done)
  exact wpIn_skip (hK c σ g a w (.refl c) h hR)
 | .ret,_=>by
  intro n c code Q K X R g σ a w hN hQ hok hR h hK hX hT
  cases code<;>try (simp [MC.ok] at hok;done)
  exact wpIn_ret (hT c σ g a w (.refl c) h hR)
 | .exit i,_=>by
  intro n c code Q K X R g σ a w hN hQ hok hR h hK hX hT
  cases code<;>try (simp [MC.ok] at hok;done)
  have e:=zR hok;subst e
  exact wpIn_exit (hX c i σ g a w (.refl c) h hR)
 | .reg ms,_=>by
  intro n c code Q K X R g σ a w hN hQ hok hR h hK hX hT
  cases code<;>try (simp [MC.ok] at hok;done)
  simp only [MC.ok,wE,xV] at hok
  obtain ⟨⟨h1,h0⟩,h2⟩:=hok
  subst h1
  exact c7h h0 hQ (hK c · · · · (.refl c)) h2 hR h
 | .regI ms,_=>by
  intro n c code Q K X R g σ a w hN hQ hok hR h hK hX hT
  cases code<;>try (simp [MC.ok] at hok;done)
  simp only [MC.ok,wE,xV] at hok
  obtain ⟨⟨h1,h0⟩,h2⟩:=hok
  subst h1
  exact c4v h0 hQ (hK c · · · · (.refl c)) h2 hR h
 | .regD ms aft anc,_=>by
  intro n c code Q K X R g σ a w hN hQ hok hR h hK hX hT
  cases code<;>try (simp [MC.ok] at hok;done)
  simp only [MC.ok,wE] at hok
  obtain ⟨⟨⟨⟨⟨⟨h1,h0⟩,h2⟩,h3⟩,h4⟩,h5⟩,h6⟩:=hok
  subst h1
  exact c4w h0 hQ h2 (hK c · · · · (.refl c)) h3 h4 h5 h6 hR h
 | .seq x y,hf=>by
  intro n c code Q K X R g σ a w hN hQ hok hR h hK hX hT
  cases code<;>try (simp [MC.ok] at hok;done)
  simp only [MC.ok,wE] at hok
  simp only [MC.flat,wE] at hf
  refine wpIn_seq (MC.sound x (hf.imp id And.left) (Q:=Exit.then _ Q) hN.1 hQ hok.1 hR h (fun c' σ g a w hl hk hr=>?_) hX hT)
  rw [←hl.nt] at hok
  rw [←hl.H0] at hk
  exact MC.sound y (hf.imp id And.right) (hN.2.mono hl) hQ hok.2 hr hk (fun c2 σ g a w hl2=>hK c2 σ g a w (hl.trans hl2)) (fun c2 i σ g a w hl2=>hX c2 i σ g a w (hl.trans hl2)) (fun c2 σ g a w hl2=>hT c2 σ g a w (hl.trans hl2))
 | .cut x y,hf=>by
  intro n c code Q K X R g σ a w hN hQ hok hR h hK hX hT
  cases code<;>try (simp [MC.ok] at hok;done)
  simp only [MC.ok,wE] at hok
  simp only [MC.flat,wE] at hf
  obtain ⟨α,I,p,ns,h1,h2⟩:=Lk.out h
  refine wpIn_seq (MC.sound x (hf.imp id And.left) (Q:=Exit.then _ Q) hN.1 hQ hok.1 hR h1 (fun c' σ g a w hl hk hr=>?_) hX hT)
  have hk:=Lk.out hk
  rw [←hl.H0] at hk
  obtain ⟨g,σ,⟨z,hz,hs⟩,hr⟩:=a8k hk hr
  have hr':=hr.subSt hs
  have h3:=h2 z hz (hr'.factsSt hs.1)
  rw [←hl.nt] at hok
  rw [←hl.H0] at h3
  exact MC.sound y (hf.imp id And.right) (hN.2.mono hl) hQ hok.2 hr' h3 (fun c2 σ g a w hl2=>hK c2 σ g a w (hl.trans hl2)) (fun c2 i σ g a w hl2=>hX c2 i σ g a w (hl.trans hl2)) (fun c2 σ g a w hl2=>hT c2 σ g a w (hl.trans hl2))
 | .cond x t e,hf=>by
  intro n c code Q K X R g σ a w hN hQ hok hR h hK hX hT
  cases code<;>try (simp [MC.ok] at hok;done)
  simp only [MC.ok,wE] at hok
  simp only [MC.flat,wE] at hf
  simp only [MWP] at h
  split at h
  case h_2=>exact h.elim
  rename_i b hb
  have hv:=Opd.vr hR hok.1.1
  rw [hb] at hv
  obtain ⟨h1,h2⟩:=h
  cases b with
  | true =>
   have h1:=h1 rfl
   rw [b9r hR hb] at h1
   exact wpIn_cond_true hv.bool_inv (MC.sound t (hf.imp id And.left) hN.1 hQ hok.1.2 hR h1 hK hX hT)
  | false =>
   have h2:=h2 rfl
   rw [b9r hR hb] at h2
   exact wpIn_cond_false hv.bool_inv (MC.sound e (hf.imp id And.right) hN.2 hQ hok.2 hR h2 hK hX hT)
 | .block i b,hf=>by
  intro n c code Q K X R g σ a w hN hQ hok hR h hK hX hT
  cases code<;>try (simp [MC.ok] at hok;done)
  simp only [MC.ok,wE] at hok
  have e:=zR hok.1;subst e
  refine wpIn_block (MC.sound b hf (Q:=Exit.inBlock i Q) hN hQ hok.2 hR h hK (fun c' j σ g a w hl hx hr=>?_) hT)
  simp only [Exit.inBlock]
  cases hb:Nat.beq j i with
  | true =>
   have e:=zR hb;subst e
   rw [hb] at hx
   simp only [if_true]
   exact hK c' σ g a w hl hx hr
  | false =>
   rw [hb] at hx
   have:j≠i:=fun e=>by rw [e,vC] at hb;cases hb
   simp only [this,if_false]
   exact hX c' j σ g a w hl hx hr
 | .loop b,hf=>by
  intro n c code Q K X R g σ a w hN hQ hok hR h hK hX hT
  cases code<;>try (simp [MC.ok] at hok;done)
  simp only [MC.ok] at hok
  obtain ⟨α,I,p,μ,ns,h0,round⟩:=Lk.out h
  obtain ⟨g,σ,⟨x0,hp0,hs0⟩,hR⟩:=a8k h0 hR
  refine wpIn_loop' (fun x a w=>p x∧(I x).good=true∧∃c' g,c.le c'∧Rel P c' g (I x) a w) μ ⟨x0,hp0,hs0.1,c,g,.refl c,hR.subSt hs0⟩ ?_
  rintro x a w ⟨hp,hg,c',g,hl,hr⟩
  have h1:=round x hp (hr.factsSt hg)
  rw [←hl.nt] at hok
  rw [←hl.H0] at h1
  refine MC.sound b hf (Q:=Exit.then _ Q) (a8d.mono (mc:=b) hl hN) hQ hok hr h1 (fun c2 σ g a w hl2 hk hr=>?_) (fun c2 i σ g a w hl2=>hX c2 i σ g a w (hl.trans hl2)) (fun c2 σ g a w hl2=>hT c2 σ g a w (hl.trans hl2))
  have hk:=Lk.out hk
  rw [←hl2.H0] at hk
  obtain ⟨g,σ,⟨y,hy,hlt,hs⟩,hr⟩:=a8k hk hr
  exact ⟨y,⟨hy,hs.1,c2,g,hl.trans hl2,hr.subSt hs⟩,hlt⟩
 | .note m b,hf=>by
  intro n c code Q K X R g σ a w hN hQ hok hR h hK hX hT
  have hok':b.ok P c.nt code=true:=by
   unfold MC.ok at hok;exact hok
  obtain ⟨g',σ',h',hR'⟩:=b1l h hR
  exact MC.sound b hf hN hQ hok' hR' h' hK hX hT
 | .hnote T b,hf=>by
  intro n c code Q K X R g σ a w hN hQ hok hR h hK hX hT
  have hok':b.ok P c.nt code=true:=by
   unfold MC.ok at hok;exact hok
  obtain ⟨g',σ',h',hR'⟩:=hN.1 _ c g σ a w (.refl c) hR h
  exact MC.sound b (.inl (hf.resolve_right (by simp [MC.flat]))) hN.2 hQ hok' hR' h' hK hX hT
 | .no,_=>by
  intro n c code Q K X R g σ a w hN hQ hok hR h hK hX hT
  exact h.elim
 | .rngF s ps a b,hf=>by
  have hr:r=none:=hf.resolve_right (by simp [MC.flat])
  subst hr
  exact c4q s ps a b (fun l hl=>MC.sound (r:=some l) a (.inr hl)) (fun l hl=>MC.sound (r:=some l) b (.inr hl))
end
def sel:List Nat→Heap→Heap
 | [],_=>[]
 | n::r,H=>match find n H with
  | some o=>(n,o)::sel r H
  | none=>sel r H
@[go_sem] def c4g:List Nat→Heap→Bool
 | [],_=>true
 | n::r,H=>a0t n H&&!mem n r&&c4g r H
def a0i.within (l:List Nat):a0i→Bool
 | .cells cs _=>V.withinL l cs
 | .nmap z _ _ _=>mem z l
 | _=>true
def b1c (l:List Nat):Heap→Bool
 | []=>true
 | (_,o)::r=>o.within l&&b1c l r
@[go_sem] def a4q:Nat→List V→List (Nat×V)
 | _,[]=>[]
 | n,x::r=>(n,x)::a4q (n+1) r
inductive RS where
 | t (s:Nat)
 | c (s:Nat) (n:Option Nat)
@[go_sem] def a9x (σ:St):List RS→(List V→Prop)→Prop
 | [],K=>K []
 | .t s::r,K=>a9x σ r fun vs=>K (get s σ.env::vs)
 | .c s n::r,K=>sLd n (get s σ.env) (fun id=>find id σ.heap) (fun x=>a9x σ r fun vs=>K (x::vs)) (fun x=>a9x σ r fun vs=>K (x::vs))
@[go_sem] def f6k:List V→V
 | [x]=>x
 | xs=>.tup xs
def a6u (P:Program):List RS→List ResultVar→Bool
 | [],[]=>true
 | .t s::r,.tmp t::q=>Nat.beq s t&&a6u P r q
 | .c s n::r,.cell t ty::q=>Nat.beq s t&&decide (c41 P ty=some n)&&a6u P r q
 | _,_=>false
@[go_sem] def f6x (rids:List Nat) (Q:V→Heap→Prop) (σ:St) (v:V):Prop :=
 bif c4g rids σ.heap&&v.within rids&&b1c rids (sel rids σ.heap) then Q v (sel rids σ.heap) else False
@[go_sem] def d4h (rids:List Nat) (rs:List RS) (Q:V→Heap→Prop) (σ:St):Prop:=a9x σ rs fun vs=>f6x rids Q σ (f6k vs)
def a2i (H0:Heap) (ns:List a4x) (rids:List Nat) (rs:List RS) (Q:V→Heap→Prop) (σ:St):Prop:=a0q H0 ns σ (d4h rids rs Q)
section
variable {P:Program}
theorem a7a {n:Nat} {o:a0i}:∀{l:List Nat} {H:Heap},find n (sel l H)=some o→n∈l∧find n H=some o
 | [],_,h=>by cases h
 | m::r,H,h=>by
  simp only [sel] at h
  cases hm:find m H with
  | none =>
   rw [hm] at h
   obtain ⟨h1,h2⟩:=a7a (l:=r) h
   exact ⟨xA _ h1,h2⟩
  | some o' =>
   rw [hm] at h
   simp only [find] at h
   cases hb:Nat.beq n m with
   | true =>
    rw [hb] at h;cases h
    have e:=zR hb;subst e
    exact ⟨xG,hm⟩
   | false =>
    rw [hb] at h
    obtain ⟨h1,h2⟩:=a7a (l:=r) h
    exact ⟨xA _ h1,h2⟩
theorem c2n {n:Nat}:∀{l:List Nat} {H:Heap},c4g l H=true→n∈l→∃o,find n (sel l H)=some o
 | m::r,H,h,hm=>by
  simp only [c4g,wE] at h
  obtain ⟨⟨h1,h2⟩,h3⟩:=h
  obtain ⟨o,ho⟩:=a3m.1 h1
  simp only [sel,ho,find]
  cases hb:Nat.beq n m with
  | true=>exact ⟨o,rfl⟩
  | false =>
   rcases wY.1 hm with e|hm
   ·rw [e,vC] at hb;cases hb
   ·exact c2n h3 hm
theorem b22 {l:List Nat} {n:Nat} {o:a0i}:∀{H:Heap},b1c l H=true→find n H=some o→o.within l=true
 | (m,y)::r,h,hf=>by
  simp only [b1c,wE] at h
  simp only [find] at hf
  cases hb:Nat.beq n m with
  | true=>rw [hb] at hf;cases hf;exact h.1
  | false=>rw [hb] at hf;exact b22 h.2 hf
theorem b5m {l:List Nat} {id:Nat} {o:a0i} (h:o.within l=true) (hh:o.has id=true):id∈l:=by
 cases o with
 | cells cs ty =>
  simp only [a0i.within,a0i.has] at h hh
  obtain ⟨x,hx,hxh⟩:=b09.1 hh
  exact a2y (a3i.1 h x hx) hxh
 | nmap z k kd es =>
  simp only [a0i.within,a0i.has] at h hh
  rw [zR hh];exact mem_iff.1 h
 | _=>simp [a0i.has] at hh
theorem b6m {s:Nat} {x:V}:∀{l:List V} {n:Nat},find s (a4q n l)=some x→n≤s∧l[s - n]?=some x
 | [],_,h=>by cases h
 | y::r,n,h=>by
  simp only [a4q,find] at h
  cases hb:Nat.beq s n with
  | true =>
   rw [hb] at h;cases h
   have e:=zR hb;subst e
   exact ⟨vJ _,by simp⟩
  | false =>
   rw [hb] at h
   obtain ⟨h1,h2⟩:=b6m (l:=r) h
   have e:s - n=(s - (n+1))+1:=by omega
   exact ⟨by omega,by rw [e];exact h2⟩
open Classical in
noncomputable def Gh.mix (g g':Gh) (l:List Nat):Gh :=
 ⟨g'.S,fun i=>if i∈l then g'.ρ i else g.ρ i,fun i=>if i∈l then g'.base i else g.base i,fun i=>if i∈l then g'.cap i else g.cap i,fun i=>if i∈l then g'.nil i else g.nil i⟩
theorem b2f {g g':Gh} {l:List Nat} {i:Nat} (h:i∈l):g'.agree (g.mix g' l) i:=by simp [Gh.agree,Gh.mix,h]
theorem c7w {g g':Gh} {l:List Nat} {i:Nat} (h:i∉l):g.agree (g.mix g' l) i:=by simp [Gh.agree,Gh.mix,h]
theorem d5d {c:Ctx} {g:Gh} {σ:St} {a:Act} {w:World} (hR:Rel P c g σ a w) (s:Nat):VR g w (a.tmps.getD s undef) (get s σ.env):=by
 rw [a2f]
 cases hf:find s σ.env with
 | none=>exact .any _
 | some x=>exact (hR.env s x hf).2
theorem b1g {c:Ctx} {g:Gh} {σ:St} {a:Act} {w:World} (hR:Rel P c g σ a w) {F:ResultVar→Sem Value} (hF:∀t,F (.tmp t)=pure (a.tmps.getD t undef))
  (hG:∀t ty ad u,a.tmps.getD t undef=.pointer (some ad)→(loadVar ty ad).run P w=.ok u w→(F (.cell t ty)).run P w=.ok u w) :
  ∀{rs:List RS} {q:List ResultVar} {K:List V→Prop},a6u P rs q=true→a9x σ rs K→∃us vs,(q.mapM F).run P w=.ok us w∧us.length=vs.length∧(∀(i:Nat) (x:V),vs[i]?=some x→VR g w (us.toArray.getD i undef) x)∧K vs
 | [],[],K,_,h=>⟨[],[],by simp,rfl,fun i x hx=>by simp at hx,h⟩
 | .t s::r,.tmp t::q,K,hok,h=>by
  simp only [a6u,wE] at hok
  have e:=zR hok.1;subst e
  obtain ⟨us,vs,h1,h2,h3,h4⟩:=b1g hR hF hG hok.2 h
  refine ⟨a.tmps.getD s undef::us,get s σ.env::vs,?_,by simp [h2],fun i x hx=>?_,h4⟩
  ·simp only [List.mapM_cons,w8,hF,w7,xN,h1]
  ·cases i with
   | zero=>simp at hx;subst hx;simpa using d5d hR s
   | succ i=>simp at hx;simpa [zC] using h3 i x hx
 | .c s n::r,.cell t ty::q,K,hok,h=>by
  simp only [a6u,wE,xM] at hok
  have e:=zR hok.1.1;subst e
  obtain ⟨ad,u,z,e1,e2,e3,e4⟩:=d5b hok.1.2 hR.hp (fun _ _ h=>h) (d5d hR s) h
  have e3:a9x σ r fun vs=>K (z::vs):=by rcases e3 with e3|e3<;>exact e3
  obtain ⟨us,vs,h1,h2,h3,h4⟩:=b1g hR hF hG hok.2 e3
  refine ⟨u::us,z::vs,?_,by simp [h2],fun i x hx=>?_,h4⟩
  ·simp only [List.mapM_cons,w8,hG s ty ad u e1 e2,w7,xN,h1]
  ·cases i with
   | zero=>simp at hx;subst hx;simpa using e4
   | succ i=>simp at hx;simpa [zC] using h3 i x hx
 | [],_::_,K,hok,h=>by simp [a6u] at hok
 | .t _::_,[],K,hok,h=>by simp [a6u] at hok
 | .c _ _::_,[],K,hok,h=>by simp [a6u] at hok
 | .t _::_,.cell _ _::_,K,hok,h=>by simp [a6u] at hok
 | .c _ _::_,.tmp _::_,K,hok,h=>by simp [a6u] at hok
theorem c0y {c:Ctx} {g:Gh} {σ:St} {a:Act} {w:World} {l:List ResultVar} {rs:List RS} (hR:Rel P c g σ a w) (hok:a6u P rs l=true) {K:V→Prop} (h:a9x σ rs fun vs=>K (f6k vs)) {F:ResultVar→Sem Value}
  (hF:∀t,F (.tmp t)=pure (a.tmps.getD t undef)) (hG:∀t ty ad u,a.tmps.getD t undef=.pointer (some ad)→(loadVar ty ad).run P w=.ok u w→(F (.cell t ty)).run P w=.ok u w) :
  ∃v x,((((l.mapM F).run P w).andThen fun a w'=>.ok a.toArray w').andThen fun a w'=>(pure (if h:a.size=1 then a[0] else Value.tuple a):Sem Value).run P w')=.ok v w∧VR g w v x∧K x:=by
 obtain ⟨us,vs,h1,h2,h3,h4⟩:=b1g hR hF hG hok h
 rw [h1]
 match us,vs with
 | [u],[x]=>exact ⟨u,x,by simp,by simpa using h3 0 x rfl,h4⟩
 | [],[]=>exact ⟨.tuple #[],.tup [],by simp,.tup _ _ rfl fun i x hx=>by simp at hx,h4⟩
 | u1::u2::ur,x1::x2::xr=>exact ⟨.tuple (u1::u2::ur).toArray,.tup (x1::x2::xr),by simp,.tup _ _ (by simpa using h2) h3,h4⟩
 | [],_::_=>simp at h2
 | [_],[]=>simp at h2
 | [_],_::_::_=>simp at h2
 | _::_::_,[]=>simp at h2
 | _::_::_,[_]=>simp at h2
theorem c0x {c:Ctx} {g:Gh} {σ:St} {a:Act} {w:World} {fn:Func} {rs:List RS} (hR:Rel P c g σ a w) (hok:a6u P rs fn.results.toList=true) {K:V→Prop} (h:a9x σ rs fun vs=>K (f6k vs)) :
  ∃v x,(results fn a.tmps).run P w=.ok v w∧VR g w v x∧K x:=by
 unfold results
 rw [Array.mapM_eq_mapM_toList]
 simp only [w8,Sem.run_map]
 exact c0y hR hok h (fun t=>rfl) (fun t ty ad u e1 e2=>by simp [e1,asAddr,e2])
theorem f0l {g:Gh} {w:World} {H:Heap} {nt:Nat} {g':Gh} {σ:St} {a:Act} {w':World} {rids:List Nat} {x:V} {Q:V→Heap→Prop} {v:Value} (hR:Rel P ⟨w,g,H,nt,[],[],H,g,w⟩ g' σ a w')
  (hv:VR g' w' v x) (h:f6x rids Q σ x):∃r H' g'',Q r H'∧a3p P g'' w' H'∧VR g'' w' v r∧Frm ⟨w,g,H,0,[],[],H,g,w⟩ g'' w' H'∧(∀id,find id H'=none→g.agree g'' id):=by
 unfold f6x at h
 cases hc:c4g rids σ.heap&&x.within rids&&b1c rids (sel rids σ.heap) with
 | false=>rw [hc] at h;exact h.elim
 | true =>
  rw [hc] at h
  simp only [wE] at hc
  obtain ⟨⟨h1,h2⟩,h3⟩:=hc
  have hk:a2e g'.S w' w':=fun _ _=>rfl
  have hs:∀b,g'.S b→(g.mix g' rids).S b:=fun _ h=>h
  refine ⟨_,_,g.mix g' rids,h,⟨fun id o ho=>?_,fun i j o o' hi hj hni hnj he=>?_,fun id o ho hn hS=>?_,hR.hp.lt,hR.hp.tabs⟩,hv.mono hk hs fun id hid=>b2f (a2y h2 hid),
   ⟨hR.fr.os,hR.fr.tape,hR.fr.output,hR.fr.size,hR.fr.old,fun id o ho hn=>?_,hR.fr.sup,hR.fr.sub,fun id o ho=>?_⟩,fun id hid=>?_⟩
  ·obtain ⟨k1,k2⟩:=a7a ho
   exact (hR.hp.obj id o k2).mono hk hs (b2f k1) (fun _=>rfl) (fun n hn=>b2f (b5m (b22 h3 ho) hn)) (vJ _)
  ·obtain ⟨k1,k2⟩:=a7a hi
   obtain ⟨k3,k4⟩:=a7a hj
   obtain ⟨e1,_,_,e2⟩:=b2f (g:=g) (g':=g') k1
   obtain ⟨e3,_,_,e4⟩:=b2f (g:=g) (g':=g') k3
   exact hR.hp.inj i j o o' k2 k4 (fun h=>hni (e2.2 h)) (fun h=>hnj (e4.2 h)) (by rw [←e1,←e3];exact he)
  ·obtain ⟨k1,k2⟩:=a7a ho
   obtain ⟨e1,_,_,e2⟩:=b2f (g:=g) (g':=g') k1
   rw [e1] at hS
   exact hR.hp.sep id o k2 (fun h=>hn (e2.2 h)) hS
  ·obtain ⟨k1,k2⟩:=a7a ho
   obtain ⟨e1,_,_,e2⟩:=b2f (g:=g) (g':=g') k1
   rw [e1]
   exact hR.fr.own id o k2 fun h=>hn (e2.2 h)
  ·by_cases hm:id∈rids
   ·exact (hR.fr.par id o ho).trans (b2f hm)
   ·exact c7w hm
  ·by_cases hm:id∈rids
   ·obtain ⟨o,ho⟩:=c2n h1 hm
    rw [ho] at hid;cases hid
   ·exact c7w hm
def shutAll:List Nat→World→World
 | [],w=>w
 | D::r,w=>shutAll r (w.putObj D (.deferred none))
theorem a9s:∀(Ds:List Nat) (w:World),(shutAll Ds w).os=w.os∧(shutAll Ds w).tape=w.tape∧(shutAll Ds w).output=w.output∧(shutAll Ds w).heap.size=w.heap.size∧∀b,b∉Ds→(shutAll Ds w).heap[b]?=w.heap[b]?
 | [],w=>⟨rfl,rfl,rfl,rfl,fun _ _=>rfl⟩
 | D::r,w=>by
  obtain ⟨h1,h2,h3,h4,h5⟩:=a9s r (w.putObj D (.deferred none))
  exact ⟨h1,h2,h3,h4.trans (by simp),fun b hb=>(h5 b fun h=>hb (xA _ h)).trans (World.putObj_heap_other fun e=>hb (e▸xG))⟩
theorem b2g {F:Fence} {n:Nat} {fn:Func} {tmps:Array Value} {R:Ending→World→Prop}:∀(Ds:List Nat) (w:World),Ds.Nodup→(∀D∈Ds,w.heap[D]?=some (.deferred (some [])))→LeavesIn F n P fn tmps R [] .returning (shutAll Ds w) →
  LeavesInM F n P fn tmps R (Ds.map fun D=>{ target:=.collected D,args:=#[] }) .returning w
 | [],w,_,_,h=>h
 | D::r,w,hn,hd,h=>by
  obtain ⟨h1,h2⟩:=List.nodup_cons.1 hn
  refine ⟨by simp,.inl ⟨D,w.putObj D (.deferred none),rfl,run_takeDeferred (hd D xG),b2g r _ h2 (fun E hE=>?_) h⟩⟩
  exact (World.putObj_heap_other fun e=>by subst e;exact h1 hE).trans (hd E (xA _ hE))
theorem d45 {f:Nat} {fn:Func} {code:Code} {mc:MC} {args:List V} {H:Heap} {Q:V→Heap→Prop} {g:Gh} {w:World} {vals:Array Value} (ns:List a4x) (rids:List Nat) (rs:List RS) (hf:P.funcs[f]?=some fn) (hb:fn.body=some code)
  (hnh:a8d P ⟨w,g,H,fn.ntmps,[],[],H,g,w⟩ mc) (hok:mc.ok P fn.ntmps code=true) (hrs:a6u P rs fn.results.toList=true) (hn:Nat.ble args.length fn.ntmps=true) (hg:St.good ⟨a4q 0 args,H⟩=true)
  (h:factsSt ⟨a4q 0 args,H⟩→MWP P H mc (a2i H ns rids rs Q) (fun _ _=>False) (a2i H ns rids rs Q) ⟨a4q 0 args,H⟩) (hH:a3p P g w H) (hl:vals.size=args.length) (hv:∀(i:Nat) (x:V),args[i]?=some x→VR g w (vals.getD i undef) x) :
  Calls P f vals w fun e w'=>∃v r H' g',e=.returned v∧Q r H'∧a3p P g' w' H'∧VR g' w' v r∧Frm ⟨w,g,H,0,[],[],H,g,w⟩ g' w' H'∧(∀id,find id H'=none→g.agree g' id):=by
 refine a8t (r:=none) (n:=0) (callsIn_of_wp_marks hf hb trivial ?_)
 obtain ⟨c,hcd⟩:∃c:Ctx,c=⟨w,g,H,fn.ntmps,[],[],H,g,w⟩:=⟨_,rfl⟩
 have hR:Rel P c g ⟨a4q 0 args,H⟩ { tmps:=vals++Array.replicate (fn.ntmps - vals.size) undef,defers:=[] } w:=by
  rw [hcd]
  have hle:vals.size≤fn.ntmps:=by rw [hl];exact zQ hn
  refine ⟨by simp;omega,⟨rfl,fun _ _ h=>(by cases h),fun _ _=>rfl⟩,fun s x hx=>?_,hH,⟨rfl,rfl,rfl,vJ _,fun _ _ _=>rfl,fun id o ho hn=>⟨.inr ⟨id,o,ho,hn,rfl⟩,fun _ h=>by cases h⟩,fun _ h=>h.elim id id,fun _ h=>⟨.inl h,fun _ h=>by cases h⟩,fun id _ _=>Gh.agree.refl g id⟩⟩
  obtain ⟨_,h2⟩:=b6m hx
  rw [Nat.sub_zero] at h2
  have hlt:s<vals.size:=by
   rw [hl];exact (zG.1 h2).1
  refine ⟨xE hlt hle,?_⟩
  have e:(vals++Array.replicate (fn.ntmps - vals.size) undef).getD s undef=vals.getD s undef:=by
   simp [zC,zY,hlt]
  rw [e]
  exact hv s x h2
 have fin:∀(c':Ctx) (σ:St) (g':Gh) (a:Act) (w':World),c.le c'→a2i H ns rids rs Q σ→Rel P c' g' σ a w' →
   LeavesInM (WF none) 0 P fn a.tmps (fun e w'=>∃v r H' g',e=.returned v∧Q r H'∧a3p P g' w' H'∧VR g' w' v r∧Frm ⟨w,g,H,0,[],[],H,g,w⟩ g' w' H'∧(∀id,find id H'=none→g.agree g' id)) a.defers .returning w':=by
  intro c' σ g' a w' hle hq hr
  obtain ⟨Ds,e1,e2,e3⟩:=hle.dfr
  have e4:a.defers=Ds.map fun D=>{ target:=.collected D,args:=#[] }:=by
   rw [hr.dfr.1,e1,hcd];simp
  rw [e4]
  refine b2g Ds w' e2 (fun D hD=>(hr.dfr.2.1 D _ (e3 D hD).1).2) ?_
  obtain ⟨s1,s2,s3,s4,s5⟩:=a9s Ds w'
  obtain ⟨k1,k2,k3⟩:=b8r (c2:=c) (w':=shutAll Ds w') hr.hp hr.fr hr.dfr hle.w0.symm hle.g0.symm hle.hm.symm (fun b hS=>hr.fr.sup b (.inr (by rw [hle.gp];exact hS))) (fun id o ho=>by
   have:=hr.fr.par id o (by rw [hle.H0];exact ho)
   rwa [hle.gp] at this) s1 s2 s3 (by rw [s4];exact vJ _) (fun b _ hf=>s5 b fun hb=>hf _ (e3 b hb).1) (fun b _ _ _ o ho=>by rw [hcd] at ho;cases ho)
  have hr2:Rel P c g' σ { a with defers:=[] } (shutAll Ds w'):=by
   refine ⟨by rw [←hle.nt];exact hr.size,⟨by rw [hcd],fun b o ho=>(by rw [hcd] at ho;cases ho),fun b hS=>?_⟩,fun t x hx=>?_,k1,k2⟩
   ·refine (k3 b (hr.fr.sup b (.inr (by rw [hle.gp];exact hS)))).trans ?_
    have:=hr.dfr.2.2 b (by rw [hle.gp];exact hS)
    rwa [hle.wp] at this
   ·obtain ⟨q1,q2⟩:=hr.env t x hx
    exact ⟨by rw [←hle.nt];exact q1,q2.mono (g':=g') k3 (fun _ h=>h) fun _ _=>Gh.agree.refl _ _⟩
  have hH0:c.H0=H:=by rw [hcd]
  unfold a2i at hq
  rw [←hH0] at hq
  obtain ⟨g',σ,hq,hr⟩:=a8k hq hr2
  obtain ⟨v,x,h1,h2,h0⟩:=c0x hr hrs hq
  rw [hcd] at hr
  obtain ⟨r,H',g'',h3,h4,h5,h6,h7⟩:=f0l hr h2 h0
  exact ⟨v,h1,v,r,H',g'',rfl,h3,h4,h5,h6,h7⟩
 have hm:=h (hR.factsSt hg)
 have hH0:c.H0=H:=by rw [hcd]
 rw [←hH0] at hm
 rw [hH0] at hm
 refine MC.sound mc (.inl rfl) (c:=c) (K:=a2i H ns rids rs Q) (X:=fun _ _=>False) (R:=a2i H ns rids rs Q) (by rw [hcd];exact hnh) ?_ (by rw [hcd];exact hok) hR (by rw [hH0];exact hm) (fun c' σ g' a w' hle hq hr=>?_) (fun _ _ _ _ _ _ _ h=>h.elim) (fun c' σ g' a w' hle hq hr=>?_)
 ·rintro _ _ ⟨v,_,_,_,h,_⟩;cases h
 ·exact fin c' σ g' a w' hle hq hr
 ·exact fin c' σ g' a w' hle hq hr
theorem d0b {f:Nat} {fn:Func} {code:Code} {mc:MC} {args:List V} {H:Heap} {Q:V→Heap→Prop} (ns:List a4x) (rids:List Nat) (rs:List RS) (hf:P.funcs[f]?=some fn) (hb:fn.body=some code) (hc:callable P f=true)
  (hnh:mc.nh=true) (hok:mc.ok P fn.ntmps code=true) (hrs:a6u P rs fn.results.toList=true) (hn:Nat.ble args.length fn.ntmps=true) (hg:St.good ⟨a4q 0 args,H⟩=true)
  (h:factsSt ⟨a4q 0 args,H⟩→MWP P H mc (a2i H ns rids rs Q) (fun _ _=>False) (a2i H ns rids rs Q) ⟨a4q 0 args,H⟩):a0s P f args H Q :=
 ⟨hc,fun g w vals hH hl hv=>d45 ns rids rs hf hb (.of_nh hnh) hok hrs hn hg h hH hl hv⟩
end
structure Cfg where
 P:Program
 H0:Heap
 K:St→Prop
 X:Nat→St→Prop
 R:St→Prop
inductive Fr where
 | sq (b:MC)
 | bl (id:Nat)
 | it (its:List It)
mutual
def kN (c:Cfg):List Fr→St→Prop
 | [],σ=>c.K σ
 | .sq b::s,σ=>MWP c.P c.H0 b (kN c s) (kX c s) c.R σ
 | .bl _::s,σ=>kN c s σ
 | .it its::s,σ=>c0e c.P c.H0 its σ (kN c s)
def kX (c:Cfg):List Fr→Nat→St→Prop
 | [],i,σ=>c.X i σ
 | .sq _::s,i,σ=>kX c s i σ
 | .it _::s,i,σ=>kX c s i σ
 | .bl id::s,i,σ=>bif Nat.beq i id then kN c s σ else kX c s i σ
end
def a0x (K:Eff→Prop) (v:V):Prop:=K (evl v)
def a8v (K:Eff→Prop) (id:Nat) (o:a0i):Prop:=K (eup id o)
def go (c:Cfg) (m:MC) (s:List Fr) (σ:St):Prop:=MWP c.P c.H0 m (kN c s) (kX c s) c.R σ
def ops (c:Cfg) (ms:List MOp) (s:List Fr) (σ:St):Prop:=runN c.P c.H0 ms σ (kN c s)
def aft (c:Cfg) (d:Option Nat) (r:List MOp) (s:List Fr) (e:List (Nat×V)) (h:Heap) (f:Eff):Prop:=ops c r s (St.app ⟨e,h⟩ d f)
def lok (c:Cfg) (d:Option Nat) (r:List MOp) (s:List Fr) (e:List (Nat×V)) (h:Heap) (f:Eff):Prop:=aft c d r s e h f
def grpC (c:Cfg) (ms:List MOp) (its:List It) (s:List Fr) (σ:St):Prop :=
 Lk (∃(α:Type) (I:α→St) (p:α→Prop),runN c.P c.H0 ms σ (fun σ'=>Lk (∃y,p y∧a0u (I y) σ'))∧∀y,p y→factsSt (I y)→kN c (.it its::s) (I y))
theorem lok_eq {c:Cfg} {d:Option Nat} {r:List MOp} {s:List Fr} {e:List (Nat×V)} {h:Heap} {f:Eff}:lok c d r s e h f=aft c d r s e h f:=propext vP
def b5i (c:Cfg) (i:a0a) (d:Option Nat) (t:Nat) (want:Bool) (r:List MOp) (s:List Fr) (e:List (Nat×V)) (h:Heap) (v:V):Prop :=
 match v with
 | .bool b=>a4n b want (ops c (⟨i,d,none⟩::r) s ⟨put t (.bool want) e,h⟩) (ops c r s ⟨a7c d (put t (.bool (!want)) e),h⟩)
 | .tup []=>ops c r s ⟨a7c d e,h⟩
 | _=>False
def goC (c:Cfg) (x:Opd) (a b:MC) (s:List Fr) (e:List (Nat×V)) (h:Heap) (v:V):Prop :=
 match v with
 | .bool t=>a4n t true (go c a s (b5v x true ⟨e,h⟩)) (go c b s (b5v x false ⟨e,h⟩))
 | _=>False
section
variable {c:Cfg} {e:List (Nat×V)} {h:Heap} {s:List Fr} {r:List MOp} {d:Option Nat} {i:a0a}
theorem go_seq {a b:MC}:go c (.seq a b) s ⟨e,h⟩=go c a (.sq b::s) ⟨e,h⟩:=by simp only [go,MWP,kN,kX]
theorem go_block {id:Nat} {b:MC}:go c (.block id b) s ⟨e,h⟩=go c b (.bl id::s) ⟨e,h⟩:=by simp only [go,MWP,kN,kX]
theorem go_skip:go c .skip s ⟨e,h⟩=kN c s ⟨e,h⟩:=propext vP
theorem go_ret:go c .ret s ⟨e,h⟩=c.R ⟨e,h⟩:=propext vP
theorem go_exit {id:Nat}:go c (.exit id) s ⟨e,h⟩=kX c s id ⟨e,h⟩:=propext vP
theorem go_reg {ms:List MOp}:go c (.reg ms) s ⟨e,h⟩=ops c ms s ⟨e,h⟩:=propext vP
theorem go_cond {x:Opd} {a b:MC}:go c (.cond x a b) s ⟨e,h⟩=goC c x a b s e h (x.ev e):=by
 unfold go MWP goC;rfl
theorem go_note {n:a4x} {b:MC}:go c (.note n b) s ⟨e,h⟩=a0y c.H0 n ⟨e,h⟩ (go c b s):=propext vP
theorem b7t {T:St→(St→Prop)→Prop} {b:MC}:go c (.hnote T b) s ⟨e,h⟩=T ⟨e,h⟩ (go c b s):=propext vP
theorem kN_nil:kN c [] ⟨e,h⟩=c.K ⟨e,h⟩:=by simp only [kN]
theorem kN_sq {b:MC}:kN c (.sq b::s) ⟨e,h⟩=go c b s ⟨e,h⟩:=by simp only [kN,go]
theorem kN_bl {id:Nat}:kN c (.bl id::s) ⟨e,h⟩=kN c s ⟨e,h⟩:=by simp only [kN]
theorem kX_nil {n:Nat}:kX c [] n ⟨e,h⟩=c.X n ⟨e,h⟩:=by simp only [kX]
theorem kX_sq {b:MC} {n:Nat}:kX c (.sq b::s) n ⟨e,h⟩=kX c s n ⟨e,h⟩:=by simp only [kX]
theorem g1w {id n:Nat}:kX c (.bl id::s) n ⟨e,h⟩=bif Nat.beq n id then kN c s ⟨e,h⟩ else kX c s n ⟨e,h⟩:=by simp only [kX]
theorem go_regI {its:List It}:go c (.regI its) s ⟨e,h⟩=kN c (.it its::s) ⟨e,h⟩:=by simp only [go,MWP,kN]
theorem kN_it_nil:kN c (.it []::s) ⟨e,h⟩=kN c s ⟨e,h⟩:=by simp only [kN,c0e]
theorem kN_it_op {m:MOp} {its:List It}:kN c (.it (.op m::its)::s) ⟨e,h⟩=ops c [m] (.it its::s) ⟨e,h⟩:=by simp only [kN,c0e,ops,runN]
theorem kN_it_nt {n:a4x} {its:List It}:kN c (.it (.nt n::its)::s) ⟨e,h⟩=a0y c.H0 n ⟨e,h⟩ (kN c (.it its::s)):=by
 have:kN c (.it its::s)=fun σ'=>c0e c.P c.H0 its σ' (kN c s):=by funext σ';simp only [kN]
 rw [this];simp only [kN,c0e]
theorem kN_it_grp {ms:List MOp} {its:List It}:kN c (.it (.grp ms::its)::s) ⟨e,h⟩=grpC c ms its s ⟨e,h⟩:=by
 have:kN c (.it its::s)=fun σ'=>c0e c.P c.H0 its σ' (kN c s):=by funext σ';simp only [kN]
 unfold grpC;rw [this];simp only [kN,c0e]
theorem kX_it {its:List It} {n:Nat}:kX c (.it its::s) n ⟨e,h⟩=kX c s n ⟨e,h⟩:=by simp only [kX]
theorem ops_nil:ops c [] s ⟨e,h⟩=kN c s ⟨e,h⟩:=propext vP
theorem ops_guard {t:Nat} {w:Bool}:ops c (⟨i,d,some (t,w)⟩::r) s ⟨e,h⟩=b5i c i d t w r s e h (get t e):=propext vP
theorem g1v (K:Eff→Prop):(fun e=>Lk (K e))=K:=funext fun e=>propext ⟨Lk.out,Lk.mk⟩
theorem ops_ins:ops c (⟨i,d,none⟩::r) s ⟨e,h⟩=bif a1k c.H0 ⟨e,h⟩ (i.creates (d.getD 0)) then p9 c.P i (d.getD 0) (i.opds.map (·.ev e)) (c52 h) (aft c d r s e h) (lok c d r s e h) else False:=by
 simp only [ops,runN,b65,b8m,g1v];rfl
theorem aft_eq {v:V} {dr:List Nat} {nw:List (Nat×a0i)}:aft c d r s e h ⟨v,dr,nw⟩=ops c r s ⟨c4f d v e,puts nw (c9f dr h)⟩:=propext vP
theorem aft_some {n:Nat} {v:V}:a0x (aft c (some n) r s e h) v=ops c r s ⟨put n v e,h⟩:=propext vP
theorem aft_none {v:V}:a0x (aft c none r s e h) v=ops c r s ⟨e,h⟩:=propext vP
theorem aft_up {n:Nat} {id:Nat} {o:a0i}:a8v (aft c (some n) r s e h) id o=ops c r s ⟨put n .any e,put id o h⟩:=propext vP
theorem aft_upn {id:Nat} {o:a0i}:a8v (aft c none r s e h) id o=ops c r s ⟨e,put id o h⟩:=propext vP
theorem lok_comp {v:V}:a0x (lok c d r s e h) v=a0x (aft c d r s e h) v:=propext vP
theorem lok_compU {id:Nat} {o:a0i}:a8v (lok c d r s e h) id o=a8v (aft c d r s e h) id o:=propext vP
theorem a6e {t:Nat} {w b:Bool}:b5i c i d t w r s e h (.bool b)=a4n b w (ops c (⟨i,d,none⟩::r) s ⟨put t (.bool w) e,h⟩) (ops c r s ⟨a7c d (put t (.bool (!w)) e),h⟩):=propext vP
theorem opsG_tup {t:Nat} {w:Bool}:b5i c i d t w r s e h (.tup [])=ops c r s ⟨a7c d e,h⟩:=propext vP
theorem opsG_lit_tt {t:Nat}:b5i c i d t true r s e h (.bool true)=ops c (⟨i,d,none⟩::r) s ⟨put t (.bool true) e,h⟩:=by rw [a6e,b0a]
theorem opsG_lit_ff {t:Nat}:b5i c i d t false r s e h (.bool false)=ops c (⟨i,d,none⟩::r) s ⟨put t (.bool false) e,h⟩:=by rw [a6e,b7v]
theorem opsG_lit_tf {t:Nat}:b5i c i d t false r s e h (.bool true)=ops c r s ⟨a7c d (put t (.bool true) e),h⟩:=by rw [a6e,b7u];rfl
theorem opsG_lit_ft {t:Nat}:b5i c i d t true r s e h (.bool false)=ops c r s ⟨a7c d (put t (.bool false) e),h⟩:=by rw [a6e,b0b];rfl
theorem b1j {t:Nat} {p:Prop} [Decidable p]:b5i c i d t true r s e h (.bool (decide p)) =
  ((p→ops c (⟨i,d,none⟩::r) s ⟨put t (.bool true) e,h⟩)∧(¬p→ops c r s ⟨a7c d (put t (.bool false) e),h⟩)):=by
 rw [a6e];simp [a4n]
theorem b1k {t:Nat} {p:Prop} [Decidable p]:b5i c i d t false r s e h (.bool (decide p)) =
  ((¬p→ops c (⟨i,d,none⟩::r) s ⟨put t (.bool false) e,h⟩)∧(p→ops c r s ⟨a7c d (put t (.bool true) e),h⟩)):=by
 rw [a6e];simp [a4n]
theorem a8n {x:Opd} {a b:MC} {t:Bool}:goC c x a b s e h (.bool t)=a4n t true (go c a s (b5v x true ⟨e,h⟩)) (go c b s (b5v x false ⟨e,h⟩)):=propext vP
theorem goC_t {n:Nat} {a b:MC}:goC c (.t n) a b s e h (.bool true)=go c a s ⟨put n (.bool true) e,h⟩:=by rw [a8n,b0a];rfl
theorem goC_f {n:Nat} {a b:MC}:goC c (.t n) a b s e h (.bool false)=go c b s ⟨put n (.bool false) e,h⟩:=by rw [a8n,b0b];rfl
theorem goC_ct {v:V} {a b:MC}:goC c (.c v) a b s e h (.bool true)=go c a s ⟨e,h⟩:=by rw [a8n,b0a];rfl
theorem goC_cf {v:V} {a b:MC}:goC c (.c v) a b s e h (.bool false)=go c b s ⟨e,h⟩:=by rw [a8n,b0b];rfl
theorem c1q {n:Nat} {a b:MC} {p:Prop} [Decidable p]:goC c (.t n) a b s e h (.bool (decide p)) =
  ((p→go c a s ⟨put n (.bool true) e,h⟩)∧(¬p→go c b s ⟨put n (.bool false) e,h⟩)):=by
 rw [a8n];simp [a4n,b5v]
theorem goC_any {n:Nat} {a b:MC} (t:Bool):goC c (.t n) a b s e h (.bool t) =
  ((t=true→go c a s ⟨put n (.bool true) e,h⟩)∧(t=false→go c b s ⟨put n (.bool false) e,h⟩)):=by
 rw [a8n];simp [a4n,b5v]
theorem opsG_any {t:Nat} {w:Bool} (b:Bool):b5i c i d t w r s e h (.bool b) =
  ((b=w→ops c (⟨i,d,none⟩::r) s ⟨put t (.bool w) e,h⟩)∧(b=(!w)→ops c r s ⟨a7c d (put t (.bool (!w)) e),h⟩)):=propext vP
section
variable {vs:List V} {P:Program} {n0:Nat} {ob:Nat→Option a0i} {K L:Eff→Prop}
theorem g2f {x:Opd} {v:V}:p9 P (.mv x) n0 [v] ob K L=a0x K v:=propext vP
theorem e0m {x y z:Opd} {a b t:V}:p9 P (.pick x y z) n0 [t,a,b] ob K L=c0q t a b (a0x K):=propext vP
theorem g2i {n:Option Nat} {x:Opd} {a:V}:p9 P (.ld n x) n0 [a] ob K L=sLd n a ob (a0x K) (a0x L):=propext vP
theorem g2e {n:Nat} {x y:Opd} {a v:V}:p9 P (.st n x y) n0 [a,v] ob K L=sSt n a v ob (a8v K) (a8v L):=propext vP
theorem f2e {x:Opd} {a:V}:p9 P (.nck x) n0 [a] ob K L=e2d a (a0x K):=propext vP
theorem f2n {ch:Bool} {op:BinOp} {x y:Opd} {a b:V}:p9 P (.bin ch op x y) n0 [a,b] ob K L=d51 ch op a b (a0x K):=propext vP
theorem e0p {m:Nat} {x:Opd} {k:IntKind} {a:V}:p9 P (.mask m x k) n0 [a] ob K L=c0s m k a (a0x K):=propext vP
theorem f2o {ng:Bool} {x y:Opd} {a b:V}:p9 P (.beq ng x y) n0 [a,b] ob K L=e2h ng a b (a0x K):=propext vP
theorem f2l {ng:Bool} {ks:List Nat} {x y:Opd} {a b:V}:p9 P (.eqs ng ks x y) n0 [a,b] ob K L=d73 ng ks a b (a0x K):=propext vP
theorem f2c {x:Opd} {a:V}:p9 P (.not x) n0 [a] ob K L=e2a a (a0x K):=propext vP
theorem f2d {ch:Bool} {x:Opd} {a:V}:p9 P (.neg ch x) n0 [a] ob K L=e2c ch a (a0x K):=propext vP
theorem f2i {ch:Bool} {k:IntKind} {x:Opd} {a:V}:p9 P (.i2i ch k x) n0 [a] ob K L=e2f ch k a (a0x K):=propext vP
theorem e0o {f:Nat} {cap:List Opd}:p9 P (.mkfn f cap) n0 vs ob K L=a0x K (.fn (.func f) vs):=by unfold p9;rfl
theorem f2a {x:Opd} {lo hi:Option Opd} {v:V}:p9 P (.sls x lo hi) n0 (v::vs) ob K L=d6o lo.isSome hi.isSome v vs (a0x K):=propext vP
theorem f2b {k:Nat} {x:Opd} {lo hi:Option Opd} {v:V}:p9 P (.slc k x lo hi) n0 (v::vs) ob K L=d4z k lo.isSome hi.isSome v vs (a0x K):=propext vP
theorem f2j {off:Nat} {x:Opd} {a:V}:p9 P (.fad off x) n0 [a] ob K L=e2g off a (a0x K):=propext vP
theorem f2h {k:Nat} {x i:Opd} {a b:V}:p9 P (.iad k x i) n0 [a,b] ob K L=d0f k a b (a0x K) (a0x L):=propext vP
theorem f2g {x i:Opd} {a b:V}:p9 P (.idx x i) n0 [a,b] ob K L=e2e a b (a0x K):=propext vP
theorem f2q {n:Option Nat} {k q:Nat} {x i:Opd} {a b:V}:p9 P (.aix n k q x i) n0 [a,b] ob K L=e2i n k q a b (a0x K):=propext vP
theorem f2k {i:Nat} {x:Opd} {a:V}:p9 P (.ext i x) n0 [a] ob K L=d71 i a (a0x K):=propext vP
theorem at_len {t:Bool} {x:Opd} {a:V}:p9 P (.len t x) n0 [a] ob K L=sLen t a (a0x K):=propext vP
theorem g2h {mx:Bool} {x y:Opd} {a b:V}:p9 P (.mm mx x y) n0 [a,b] ob K L=sMm mx a b (a0x K):=propext vP
theorem d4g {zs:List V} {t:Option TypeId}:p9 P (.alloc zs t) n0 vs ob K L=K ⟨.ptr n0 0,[],[(n0,.cells zs t)]⟩:=by unfold p9;rfl
theorem f2m {x:Opd} {a:V}:p9 P (.box x) n0 [a] ob K L=d75 n0 a K:=propext vP
theorem d05 {k:Nat} {xs:List Opd} {uv:Bool}:p9 P (.bslice k xs uv) n0 vs ob K L=bif vs.all (a4j k) then K ⟨.osl n0 k 0 vs.length,[],[(n0,.arr k vs (uvT uv))]⟩ else False:=by unfold p9;rfl
theorem e0n {k bytes:Nat} {z:V} {l m:Opd} {a b:V}:p9 P (.mksl k bytes z l m) n0 [a,b] ob K L=c0r k bytes n0 z a b K:=propext vP
theorem f2p {k bytes:Nat} {x y:Opd} {ty:Option TypeId} {a b:V}:p9 P (.app k bytes x y ty) n0 [a,b] ob K L=c2r k bytes n0 ty a b ob K:=propext vP
theorem e0q {f:Opd} {args:List Opd} {ids news:List Nat} {g:V}:p9 P (.call f args ids news) n0 (g::vs) ob K L=b2x P g vs ids news ob (L):=propext vP
@[go_sem] def c94 (K:Eff→Prop):Option (List V)→Prop
 | some cs=>a0x K (.agg cs)
 | none=>False
theorem f2f {k:Nat} {xs:List Opd}:p9 P (.lsl k xs) n0 vs ob K L=bif vs.all (a4j k) then a0x K (.sl vs) else False:=by unfold p9;rfl
theorem e0r {k:Nat} {zs:List V} {xs:List Opd}:p9 P (.barr k zs xs) n0 vs ob K L=c94 K (b0h zs (a2o k 0 vs)):=by
 unfold p9 c94;rfl
theorem d4f {zs:List V} {ps:List (Nat×Nat×Opd)}:p9 P (.build zs ps) n0 vs ob K L=c94 K (b0h zs ((ps.zip vs).map fun p=>(p.1.1,p.1.2.1,p.2))):=by
 unfold p9 c94;rfl
end
theorem c67 (n m:Nat):Nat.beq n m=(n==m):=by
 cases hb:Nat.beq n m with
 | true=>rw [zR hb];simp
 | false =>
  have:n≠m:=fun e=>by rw [e,vC] at hb;cases hb
  simp [this]
theorem h0q (n m:Nat):Nat.ble n m=decide (n≤m):=by
 cases hb:Nat.ble n m with
 | true=>have:=zQ hb;simp [this]
 | false =>
  have:¬n≤m:=fun e=>by rw [Nat.ble_eq_true_of_le e] at hb;cases hb
  simp [this]
theorem d3d {n m:Nat} {x:V} {r:List (Nat×V)}:get n ((m,x)::r)=bif n==m then x else get n r:=by simp only [get,c67]
theorem d9o {n:Nat}:get n []=.any:=rfl
theorem c90 {α:Type} {n m:Nat} {x:α} {r:List (Nat×α)}:find n ((m,x)::r)=bif n==m then some x else find n r:=by simp only [find,c67]
theorem d3k {α:Type} {n:Nat}:find n ([]:List (Nat×α))=none:=rfl
theorem d1r {α:Type} {n m:Nat} {x y:α} {r:List (Nat×α)}:put n x ((m,y)::r)=bif n==m then (m,x)::r else (m,y)::put n x r:=by simp only [put,c67]
theorem d7h {α:Type} {n:Nat} {x:α}:put n x []=[(n,x)]:=rfl
theorem d3u {α:Type} {n m:Nat} {x:α} {r:List (Nat×α)}:del n ((m,x)::r)=bif n==m then del n r else (m,x)::del n r:=by simp only [del,c67]
theorem d9v {α:Type} {n:Nat}:del n ([]:List (Nat×α))=[]:=rfl
theorem d7s {n:Nat}:c52 h n=find n h:=rfl
theorem d9f {n id o:Nat}:(V.ptr id o).has n=(n==id):=by simp only [V.has,c67]
theorem d9g {n id k l m:Nat}:(V.osl id k l m).has n=(n==id):=by simp only [V.has,c67]
theorem d2y {n id k l m:Nat}:(V.optr id k l m).has n=(n==id):=by simp only [V.has,c67]
theorem d37 {n id:Nat}:(V.bptr id).has n=(n==id):=by simp only [V.has,c67]
theorem d2z {n id:Nat}:(V.omap id).has n=(n==id):=by simp only [V.has,c67]
theorem d9l {n:Nat} {cs:List V}:(V.agg cs).has n=V.hasL n cs:=by simp only [V.has]
theorem d9d {n:Nat} {cs:List V}:(V.tup cs).has n=V.hasL n cs:=by simp only [V.has]
theorem e9g {n:Nat} {f:Fn} {cs:List V}:(V.fn f cs).has n=V.hasL n cs:=by simp only [V.has]
theorem d38 {n:Nat} {b:Bool}:(V.bool b).has n=false:=by simp only [V.has]
theorem d9h {n:Nat} {k:IntKind} {x:Int}:(V.int k x).has n=false:=by simp only [V.has]
theorem d9e {n:Nat} {x:List UInt8}:(V.str x).has n=false:=by simp only [V.has]
theorem e9f {n:Nat} {x:List V}:(V.sl x).has n=false:=by simp only [V.has]
theorem d30 {n:Nat}:V.nils.has n=false:=by simp only [V.has]
theorem d31 {n:Nat}:V.nilp.has n=false:=by simp only [V.has]
theorem d32 {n:Nat}:V.nilm.has n=false:=by simp only [V.has]
theorem d34 {n:Nat}:V.nilf.has n=false:=by simp only [V.has]
theorem d33 {n:Nat}:V.nili.has n=false:=by simp only [V.has]
theorem d9k {n:Nat}:V.any.has n=false:=by simp only [V.has]
theorem d35 {n o:Nat} {x:V}:(V.eptr x o).has n=false:=by simp only [V.has]
theorem d39 {n:Nat}:V.hasL n []=false:=by simp only [V.hasL]
theorem c8p {n:Nat} {x:V} {l:List V}:V.hasL n (x::l)=(x.has n||V.hasL n l):=by simp only [V.hasL]
theorem c5i {σ:St} {H:Heap}:a1k H σ []=true:=rfl
theorem c1y {n:Nat} {l:List Nat} {H:Heap}:a1k H ⟨e,h⟩ (n::l)=((find n H).isNone&&a7u n e&&a1h n h&&a1k H ⟨e,h⟩ l):=by
 simp only [a1k];cases find n H<;>rfl
theorem kX_bl' {id n:Nat}:kX c (.bl id::s) n ⟨e,h⟩=bif n==id then kN c s ⟨e,h⟩ else kX c s n ⟨e,h⟩:=by rw [g1w,c67]
theorem d7z {n:Nat}:mem n []=false:=rfl
theorem c81 {n m:Nat} {l:List Nat}:mem n (m::l)=(n==m||mem n l):=by simp only [mem,c67]
def f9y (H:Heap) (σ:St) (i:Nat) (a:List (List Nat)) (l:List Ent):Prop:=a3h H σ i a l=true
theorem e03 {H:Heap} {σ:St} {i:Nat} {a:List (List Nat)} {l:List Ent} (h:a3h H σ i a l=true):f9y H σ i a l:=h
def opsD (c:Cfg) (anc:List (List Nat)) (e0:List (Nat×V)) (h0:Heap) (ms:List MOp) (log:List Ent) (s:List Fr) (σ:St):Prop :=
 c6y c.P c.H0 ms log σ fun log σ'=>a3h c.H0 ⟨e0,h0⟩ 0 anc log.reverse=true∧kN c s σ'
def aftD (c:Cfg) (anc:List (List Nat)) (e0:List (Nat×V)) (h0:Heap) (d:Option Nat) (u t m:List Nat) (r:List MOp) (log:List Ent) (s:List Fr) (e:List (Nat×V)) (h:Heap) (f:Eff):Prop :=
 opsD c anc e0 h0 r (⟨d,some f,u,t,m⟩::log) s (St.app ⟨e,h⟩ d f)
def lokD (c:Cfg) (anc:List (List Nat)) (e0:List (Nat×V)) (h0:Heap) (d:Option Nat) (u t m:List Nat) (r:List MOp) (log:List Ent) (s:List Fr) (e:List (Nat×V)) (h:Heap) (f:Eff):Prop :=
 aftD c anc e0 h0 d u t m r log s e h f
def insG (c:Cfg) (anc:List (List Nat)) (e0:List (Nat×V)) (h0:Heap) (i:a0a) (d:Option Nat) (gs:List Nat) (r:List MOp) (log:List Ent) (s:List Fr) (e:List (Nat×V)) (h:Heap):Prop :=
 bif a1k c.H0 ⟨e,h⟩ (i.creates (d.getD 0)) then
  a1f c.P i (d.getD 0) (i.opds.map (·.ev e)) (c52 h) (aftD c anc e0 h0 d (gs++slotsOf i.opds) (i.touch (i.opds.map (·.ev e))) (i.creates (d.getD 0)) r log s e h)
   (lokD c anc e0 h0 d (gs++slotsOf i.opds) (i.touch (i.opds.map (·.ev e))) (i.creates (d.getD 0)) r log s e h)
 else False
def opsDG (c:Cfg) (anc:List (List Nat)) (e0:List (Nat×V)) (h0:Heap) (i:a0a) (d:Option Nat) (t:Nat) (want:Bool) (r:List MOp) (log:List Ent) (s:List Fr) (e:List (Nat×V)) (h:Heap) (v:V):Prop :=
 match v with
 | .bool b=>a4n b want (insG c anc e0 h0 i d [t] r log s (put t (.bool want) e) h) (opsD c anc e0 h0 r (⟨d,none,[t],[],[]⟩::log) s ⟨a7c d (put t (.bool (!want)) e),h⟩)
 | .tup []=>opsD c anc e0 h0 r (⟨d,none,[t],[],[]⟩::log) s ⟨a7c d e,h⟩
 | _=>False
section
variable {P:Program} {n0:Nat} {vs:List V} {ob:Nat→Option a0i} {K L:Eff→Prop}
theorem g29 {x:Opd}:a1f P (.mv x) n0 vs ob K L=p9 P (.mv x) n0 vs ob K L:=propext vP
theorem d9w {x y z:Opd}:a1f P (.pick x y z) n0 vs ob K L=p9 P (.pick x y z) n0 vs ob K L:=propext vP
theorem d3x {zs:List V} {t:Option TypeId}:a1f P (.alloc zs t) n0 vs ob K L=p9 P (.alloc zs t) n0 vs ob K L:=propext vP
theorem f1k {x:Opd}:a1f P (.box x) n0 vs ob K L=p9 P (.box x) n0 vs ob K L:=propext vP
theorem d3w {zs:List V} {ps:List (Nat×Nat×Opd)}:a1f P (.build zs ps) n0 vs ob K L=p9 P (.build zs ps) n0 vs ob K L:=propext vP
theorem c9i {k:Nat} {xs:List Opd} {uv:Bool}:a1f P (.bslice k xs uv) n0 vs ob K L=p9 P (.bslice k xs uv) n0 vs ob K L:=propext vP
theorem g2c {n:Option Nat} {x:Opd}:a1f P (.ld n x) n0 vs ob K L=p9 P (.ld n x) n0 vs ob K L:=propext vP
theorem g28 {n:Nat} {x y:Opd}:a1f P (.st n x y) n0 vs ob K L=p9 P (.st n x y) n0 vs ob K L:=propext vP
theorem f0v {x:Opd}:a1f P (.nck x) n0 vs ob K L=p9 P (.nck x) n0 vs ob K L:=propext vP
theorem f1l {ch:Bool} {op:BinOp} {x y:Opd}:a1f P (.bin ch op x y) n0 vs ob K L=p9 P (.bin ch op x y) n0 vs ob K L:=propext vP
theorem e00 {m:Nat} {x:Opd} {k:IntKind}:a1f P (.mask m x k) n0 vs ob K L=p9 P (.mask m x k) n0 vs ob K L:=propext vP
theorem f1m {ng:Bool} {x y:Opd}:a1f P (.beq ng x y) n0 vs ob K L=p9 P (.beq ng x y) n0 vs ob K L:=propext vP
theorem f1h {ng:Bool} {ks:List Nat} {x y:Opd}:a1f P (.eqs ng ks x y) n0 vs ob K L=p9 P (.eqs ng ks x y) n0 vs ob K L:=propext vP
theorem f0t {x:Opd}:a1f P (.not x) n0 vs ob K L=p9 P (.not x) n0 vs ob K L:=propext vP
theorem f0u {ch:Bool} {x:Opd}:a1f P (.neg ch x) n0 vs ob K L=p9 P (.neg ch x) n0 vs ob K L:=propext vP
theorem f1d {ch:Bool} {k:IntKind} {x:Opd}:a1f P (.i2i ch k x) n0 vs ob K L=p9 P (.i2i ch k x) n0 vs ob K L:=propext vP
theorem d9z {f:Nat} {cap:List Opd}:a1f P (.mkfn f cap) n0 vs ob K L=p9 P (.mkfn f cap) n0 vs ob K L:=propext vP
theorem d9y {k bytes:Nat} {z:V} {l m:Opd}:a1f P (.mksl k bytes z l m) n0 vs ob K L=p9 P (.mksl k bytes z l m) n0 vs ob K L:=propext vP
theorem f0q {x:Opd} {lo hi:Option Opd}:a1f P (.sls x lo hi) n0 vs ob K L=p9 P (.sls x lo hi) n0 vs ob K L:=propext vP
theorem f0r {k:Nat} {x:Opd} {lo hi:Option Opd}:a1f P (.slc k x lo hi) n0 vs ob K L=p9 P (.slc k x lo hi) n0 vs ob K L:=propext vP
theorem f1f {off:Nat} {x:Opd}:a1f P (.fad off x) n0 vs ob K L=p9 P (.fad off x) n0 vs ob K L:=propext vP
theorem f1c {k:Nat} {x y:Opd}:a1f P (.iad k x y) n0 vs ob K L=p9 P (.iad k x y) n0 vs ob K L:=propext vP
theorem f1b {x y:Opd}:a1f P (.idx x y) n0 vs ob K L=p9 P (.idx x y) n0 vs ob K L:=propext vP
theorem f1p {n:Option Nat} {k q:Nat} {x i:Opd}:a1f P (.aix n k q x i) n0 vs ob K L=p9 P (.aix n k q x i) n0 vs ob K L:=propext vP
theorem f0w {k:Nat} {xs:List Opd}:a1f P (.lsl k xs) n0 vs ob K L=p9 P (.lsl k xs) n0 vs ob K L:=propext vP
theorem e02 {k:Nat} {zs:List V} {xs:List Opd}:a1f P (.barr k zs xs) n0 vs ob K L=p9 P (.barr k zs xs) n0 vs ob K L:=propext vP
theorem f1g {i:Nat} {x:Opd}:a1f P (.ext i x) n0 vs ob K L=p9 P (.ext i x) n0 vs ob K L:=propext vP
theorem f0y {t:Bool} {x:Opd}:a1f P (.len t x) n0 vs ob K L=p9 P (.len t x) n0 vs ob K L:=propext vP
theorem f1n {k bytes:Nat} {x y:Opd} {ty:Option TypeId}:a1f P (.app k bytes x y ty) n0 vs ob K L=p9 P (.app k bytes x y ty) n0 vs ob K L:=propext vP
theorem g2a {mx:Bool} {x y:Opd}:a1f P (.mm mx x y) n0 vs ob K L=p9 P (.mm mx x y) n0 vs ob K L:=propext vP
end
section
variable {anc aft0:List (List Nat)} {e0:List (Nat×V)} {h0:Heap} {log:List Ent} {u t m gs:List Nat}
theorem go_regD {ms:List MOp}:go c (.regD ms aft0 anc) s ⟨e,h⟩=opsD c anc e h ms [] s ⟨e,h⟩:=propext vP
theorem opsD_nil:opsD c anc e0 h0 [] log s ⟨e,h⟩=(f9y c.H0 ⟨e0,h0⟩ 0 anc log.reverse∧kN c s ⟨e,h⟩):=propext vP
theorem opsD_ins:opsD c anc e0 h0 (⟨i,d,none⟩::r) log s ⟨e,h⟩=insG c anc e0 h0 i d [] r log s e h:=propext vP
theorem opsD_guard {n:Nat} {w:Bool}:opsD c anc e0 h0 (⟨i,d,some (n,w)⟩::r) log s ⟨e,h⟩=opsDG c anc e0 h0 i d n w r log s e h (get n e):=propext vP
theorem insG_eq:insG c anc e0 h0 i d gs r log s e h=bif a1k c.H0 ⟨e,h⟩ (i.creates (d.getD 0)) then
  a1f c.P i (d.getD 0) (i.opds.map (·.ev e)) (c52 h) (aftD c anc e0 h0 d (gs++slotsOf i.opds) (i.touch (i.opds.map (·.ev e))) (i.creates (d.getD 0)) r log s e h)
   (lokD c anc e0 h0 d (gs++slotsOf i.opds) (i.touch (i.opds.map (·.ev e))) (i.creates (d.getD 0)) r log s e h)
 else False:=propext vP
theorem c4a {P:Program} {n0:Nat} {vs:List V} {ob:Nat→Option a0i} {K L:Eff→Prop} {f:Opd} {args:List Opd} {ids news:List Nat} {g:V} :
  a1f P (.call f args ids news) n0 (g::vs) ob K L=b3r P g vs ids news ob L:=rfl
theorem aftD_eq {v:V} {dr:List Nat} {nw:List (Nat×a0i)}:aftD c anc e0 h0 d u t m r log s e h ⟨v,dr,nw⟩=opsD c anc e0 h0 r (⟨d,some ⟨v,dr,nw⟩,u,t,m⟩::log) s ⟨c4f d v e,puts nw (c9f dr h)⟩:=propext vP
theorem aftD_comp {v:V}:a0x (aftD c anc e0 h0 d u t m r log s e h) v=opsD c anc e0 h0 r (⟨d,some ⟨v,[],[]⟩,u,t,m⟩::log) s ⟨c4f d v e,h⟩:=propext vP
theorem aftD_up {id:Nat} {o:a0i}:a8v (aftD c anc e0 h0 d u t m r log s e h) id o=opsD c anc e0 h0 r (⟨d,some ⟨.any,[],[(id,o)]⟩,u,t,m⟩::log) s ⟨c4f d .any e,put id o h⟩:=propext vP
theorem lokD_eq {f:Eff}:lokD c anc e0 h0 d u t m r log s e h f=aftD c anc e0 h0 d u t m r log s e h f:=propext vP
theorem lokD_comp {v:V}:a0x (lokD c anc e0 h0 d u t m r log s e h) v=a0x (aftD c anc e0 h0 d u t m r log s e h) v:=propext vP
theorem lokD_compU {id:Nat} {o:a0i}:a8v (lokD c anc e0 h0 d u t m r log s e h) id o=a8v (aftD c anc e0 h0 d u t m r log s e h) id o:=propext vP
theorem opsDG_bool {n:Nat} {w b:Bool}:opsDG c anc e0 h0 i d n w r log s e h (.bool b) =
  a4n b w (insG c anc e0 h0 i d [n] r log s (put n (.bool w) e) h) (opsD c anc e0 h0 r (⟨d,none,[n],[],[]⟩::log) s ⟨a7c d (put n (.bool (!w)) e),h⟩):=propext vP
theorem opsDG_tup {n:Nat} {w:Bool}:opsDG c anc e0 h0 i d n w r log s e h (.tup [])=opsD c anc e0 h0 r (⟨d,none,[n],[],[]⟩::log) s ⟨a7c d e,h⟩:=propext vP
theorem opsDG_tt {n:Nat}:opsDG c anc e0 h0 i d n true r log s e h (.bool true)=insG c anc e0 h0 i d [n] r log s (put n (.bool true) e) h:=by rw [opsDG_bool,b0a]
theorem opsDG_ff {n:Nat}:opsDG c anc e0 h0 i d n false r log s e h (.bool false)=insG c anc e0 h0 i d [n] r log s (put n (.bool false) e) h:=by rw [opsDG_bool,b7v]
theorem opsDG_tf {n:Nat}:opsDG c anc e0 h0 i d n false r log s e h (.bool true)=opsD c anc e0 h0 r (⟨d,none,[n],[],[]⟩::log) s ⟨a7c d (put n (.bool true) e),h⟩:=by rw [opsDG_bool,b7u];rfl
theorem opsDG_ft {n:Nat}:opsDG c anc e0 h0 i d n true r log s e h (.bool false)=opsD c anc e0 h0 r (⟨d,none,[n],[],[]⟩::log) s ⟨a7c d (put n (.bool false) e),h⟩:=by rw [opsDG_bool,b0b];rfl
theorem a98 {n:Nat} {p:Prop} [Decidable p]:opsDG c anc e0 h0 i d n true r log s e h (.bool (decide p)) =
  ((p→insG c anc e0 h0 i d [n] r log s (put n (.bool true) e) h)∧(¬p→opsD c anc e0 h0 r (⟨d,none,[n],[],[]⟩::log) s ⟨a7c d (put n (.bool false) e),h⟩)):=by
 rw [opsDG_bool];simp [a4n]
theorem a99 {n:Nat} {p:Prop} [Decidable p]:opsDG c anc e0 h0 i d n false r log s e h (.bool (decide p)) =
  ((¬p→insG c anc e0 h0 i d [n] r log s (put n (.bool false) e) h)∧(p→opsD c anc e0 h0 r (⟨d,none,[n],[],[]⟩::log) s ⟨a7c d (put n (.bool true) e),h⟩)):=by
 rw [opsDG_bool];simp [a4n]
end
theorem go_loop {b:MC} {α:Type} (I:α→St) (p:α→Prop) (μ:α→Nat) (ns:List a4x) (h0:a0q c.H0 ns ⟨e,h⟩ fun σ'=>∃x,p x∧a0u (I x) σ')
  (round:∀x,p x→factsSt (I x)→go ⟨c.P,c.H0,fun σ'=>Lk (a0q c.H0 ns σ' fun σ'=>∃y,p y∧μ y<μ x∧a0u (I y) σ'),kX c s,c.R⟩ b [] (I x)):go c (.loop b) s ⟨e,h⟩:=by
 unfold go MWP
 refine Lk.mk ⟨α,I,p,μ,ns,h0,fun x hp hf=>?_⟩
 have:=round x hp hf
 unfold go at this
 have e1:kN ⟨c.P,c.H0,fun σ'=>Lk (a0q c.H0 ns σ' fun σ'=>∃y,p y∧μ y<μ x∧a0u (I y) σ'),kX c s,c.R⟩ []=fun σ'=>Lk (a0q c.H0 ns σ' fun σ'=>∃y,p y∧μ y<μ x∧a0u (I y) σ'):=by funext σ;simp only [kN]
 have e2:kX ⟨c.P,c.H0,fun σ'=>Lk (a0q c.H0 ns σ' fun σ'=>∃y,p y∧μ y<μ x∧a0u (I y) σ'),kX c s,c.R⟩ []=kX c s:=by funext n σ;simp only [kX]
 rw [e1,e2] at this
 exact this
theorem go_grp {ms:List MOp} {its:List It} {α:Type} (I:α→St) (p:α→Prop) (h1:ops ⟨c.P,c.H0,fun σ'=>Lk (∃y,p y∧a0u (I y) σ'),fun _ _=>False,fun _=>False⟩ ms [] ⟨e,h⟩)
  (h2:∀y,p y→factsSt (I y)→kN c (.it its::s) (I y)):grpC c ms its s ⟨e,h⟩:=by
 unfold grpC
 refine Lk.mk ⟨α,I,p,?_,h2⟩
 unfold ops at h1
 have e1:kN ⟨c.P,c.H0,fun σ'=>Lk (∃y,p y∧a0u (I y) σ'),fun _ _=>False,fun _=>False⟩ []=fun σ'=>Lk (∃y,p y∧a0u (I y) σ'):=by funext σ;simp only [kN]
 rw [e1] at h1
 exact h1
end
theorem go_cut {c:Cfg} {e:List (Nat×V)} {h:Heap} {s:List Fr} {a b:MC} {α:Type} (I:α→St) (p:α→Prop) (ns:List a4x)
  (h1:go ⟨c.P,c.H0,fun σ'=>Lk (a0q c.H0 ns σ' fun σ'=>∃y,p y∧a0u (I y) σ'),kX c s,c.R⟩ a [] ⟨e,h⟩) (h2:∀y,p y→factsSt (I y)→go c b s (I y)):go c (.cut a b) s ⟨e,h⟩:=by
 unfold go MWP
 refine Lk.mk ⟨α,I,p,ns,?_,h2⟩
 unfold go at h1
 have e1:kN ⟨c.P,c.H0,fun σ'=>Lk (a0q c.H0 ns σ' fun σ'=>∃y,p y∧a0u (I y) σ'),kX c s,c.R⟩ []=fun σ'=>Lk (a0q c.H0 ns σ' fun σ'=>∃y,p y∧a0u (I y) σ'):=by funext σ;simp only [kN]
 have e2:kX ⟨c.P,c.H0,fun σ'=>Lk (a0q c.H0 ns σ' fun σ'=>∃y,p y∧a0u (I y) σ'),kX c s,c.R⟩ []=kX c s:=by funext n σ;simp only [kX]
 rw [e1,e2] at h1
 exact h1
def MC.straight:MC→Bool
 | .skip=>true
 | .reg _=>true
 | .regI _=>true
 | .regD _ _ _=>true
 | .seq a b=>a.straight&&b.straight
 | _=>false
theorem a8c {P:Program} {H0:Heap} {X X':Nat→St→Prop} {R R':St→Prop}:∀{a:MC} {K:St→Prop} {σ:St},a.straight=true→MWP P H0 a K X R σ=MWP P H0 a K X' R' σ
 | .skip,_,_,_=>by simp only [MWP]
 | .reg _,_,_,_=>by simp only [MWP]
 | .regI _,_,_,_=>by simp only [MWP]
 | .regD _ _ _,_,_,_=>by simp only [MWP]
 | .seq a b,K,σ,h=>by
  simp only [MC.straight,wE] at h
  simp only [MWP]
  rw [a8c (a:=a) h.1]
  congr 1
  funext σ'
  exact a8c (a:=b) h.2
 | .cut _ _,_,_,h=>by simp [MC.straight] at h
 | .cond _ _ _,_,_,h=>by simp [MC.straight] at h
 | .block _ _,_,_,h=>by simp [MC.straight] at h
 | .loop _,_,_,h=>by simp [MC.straight] at h
 | .note _ _,_,_,h=>by simp [MC.straight] at h
 | .hnote _ _,_,_,h=>by simp [MC.straight] at h
 | .no,_,_,h=>by simp [MC.straight] at h
 | .rngF _ _ _ _,_,_,h=>by simp [MC.straight] at h
 | .ret,_,_,h=>by simp [MC.straight] at h
 | .exit _,_,_,h=>by simp [MC.straight] at h
theorem go_rngF {c:Cfg} {e:List (Nat×V)} {h:Heap} {s:List Fr} {q:Opd} {ps:List Nat} {a b:MC} {gf:Nat} {caps:List V} {α:Type} (Hc:Heap) (xss:List (List V)) (pins:List Nat) (I:Nat→α→Heap) (p:Nat→α→Prop) (ns:List a4x)
  (hq:q.ev e=.fn (.func gf) caps) (hit:b89 c.P gf caps Hc xss) (hsc:a0u ⟨[],Hc⟩ ⟨e,h⟩) (hpin:b9o pins e=true) (hxs:∀xs∈xss,xs.length=ps.length∧V.withinL [] xs=true) (h0:∃x,p 0 x∧a0u ⟨[],I 0 x⟩ ⟨e,h⟩∧∀q∈Hc,find q.1 (I 0 x)=none)
  (round:∀k x xs,xss[k]?=some xs→p k x→b0i (I k x)→go ⟨c.P,b7i c.H0 pins,fun σ'=>Lk (a0q (b7i c.H0 pins) ns σ' fun σ'=>∃y,p (k+1) y∧a0u ⟨[],I (k+1) y⟩ σ'),fun i σ'=>kX c s i ⟨e,σ'.heap⟩,fun σ'=>c.R ⟨e,σ'.heap⟩⟩ (.seq a b) [] ⟨b5k ps xs e,I k x⟩)
  (ha:a.straight=true) (hdone:∀x,p xss.length x→kN c s ⟨e,I xss.length x⟩):go c (.rngF q ps a b) s ⟨e,h⟩:=by
 unfold go MWP
 simp only [hq]
 refine Lk.mk ⟨Hc,xss,pins,α,I,p,ns,hit,hsc,hpin,hxs,h0,fun k x xs hk hp hf=>?_,hdone⟩
 have:=round k x xs hk hp hf
 unfold go MWP at this
 have e1:∀(P:Program) (H:Heap) (K:St→Prop) (X:Nat→St→Prop) (R:St→Prop),kN ⟨P,H,K,X,R⟩ []=K:=fun _ _ _ _ _=>by funext σ;simp only [kN]
 have e2:∀(P:Program) (H:Heap) (K:St→Prop) (X:Nat→St→Prop) (R:St→Prop),kX ⟨P,H,K,X,R⟩ []=X:=fun _ _ _ _ _=>by funext n σ;simp only [kX]
 rw [e1,e2] at this
 simp only [MWP] at this
 rw [a8c ha]
 exact this
theorem c2q {P:Program} {n:Nat} {args:List V} {cap:List V} {ids news:List Nat} {ob:Nat→Option a0i} {L:Eff→Prop} {H H1:Heap} {r:V} (hc:a0s P n (args++cap) H (fun r' H'=>r'=r∧H'=H1)) (hs:b8f ids ob=some H)
  (hi:b1q H1 ids news=true) (hl:L ⟨r,ids,H1⟩):b2x P (.fn (.func n) cap) args ids news ob L:=by
 unfold b2x
 simp only [hs]
 exact hc.mono fun r' H' ⟨e1,e2⟩=>by subst e1;subst e2;rw [hi];exact hl
theorem c6v {P:Program} {n:Nat} {args:List V} {cap:List V} {ids news:List Nat} {ob:Nat→Option a0i} {L:Eff→Prop} {H H1:Heap} {r:V} (hc:a0s P n (args++cap) H (fun r' H'=>r'=r∧H'=H1)) (hs:b8f ids ob=some H)
  (hi:b1q H1 ids news=true) (hl:L ⟨r,ids,H1⟩):b3r P (.fn (.func n) cap) args ids news ob L:=by
 unfold b3r
 simp only [hs]
 exact ⟨r,H1,hc,hi,hl⟩
theorem c43 {P:Program} {f:Nat} {fn:Func} {code:Code} {mc:MC} {args:List V} {H:Heap} {Q:V→Heap→Prop} (ns:List a4x) (rids:List Nat) (rs:List RS) (hf:P.funcs[f]?=some fn) (hb:fn.body=some code) (hc:callable P f=true)
  (hnh:mc.nh=true) (hok:mc.ok P fn.ntmps code=true) (hrs:a6u P rs fn.results.toList=true) (hn:Nat.ble args.length fn.ntmps=true) (hg:St.good ⟨a4q 0 args,H⟩=true)
  (h:factsSt ⟨a4q 0 args,H⟩→go ⟨P,H,a2i H ns rids rs Q,fun _ _=>False,a2i H ns rids rs Q⟩ mc [] ⟨a4q 0 args,H⟩):a0s P f args H Q:=by
 refine d0b ns rids rs hf hb hc hnh hok hrs hn hg fun hfa=>?_
 have:=h hfa
 unfold go at this
 have e1:kN ⟨P,H,a2i H ns rids rs Q,fun _ _=>False,a2i H ns rids rs Q⟩ []=a2i H ns rids rs Q:=by funext σ;simp only [kN]
 have e2:kX ⟨P,H,a2i H ns rids rs Q,fun _ _=>False,a2i H ns rids rs Q⟩ []=fun _ _=>False:=by funext n σ;simp only [kX]
 rw [e1,e2] at this
 exact this
attribute [irreducible] f9y
def ints (l:List Int):V:=.sl (l.map fun n=>.int .i64 n)
def tape (l:List Int) (k:Nat):a0i:=.cells [ints l,.int .i64 k]
structure a15 where
 grpC:Cfg→List MOp→List It→List Fr→St→Prop
 kN:Cfg→List Fr→St→Prop
 kX:Cfg→List Fr→Nat→St→Prop
 go:Cfg→MC→List Fr→St→Prop
 ops:Cfg→List MOp→List Fr→St→Prop
 aft:Cfg→Option Nat→List MOp→List Fr→List (Nat×V)→Heap→Eff→Prop
 lok:Cfg→Option Nat→List MOp→List Fr→List (Nat×V)→Heap→Eff→Prop
 b5i:Cfg→a0a→Option Nat→Nat→Bool→List MOp→List Fr→List (Nat×V)→Heap→V→Prop
 goC:Cfg→Opd→MC→MC→List Fr→List (Nat×V)→Heap→V→Prop
 opsD:Cfg→List (List Nat)→List (Nat×V)→Heap→List MOp→List Ent→List Fr→St→Prop
 aftD:Cfg→List (List Nat)→List (Nat×V)→Heap→Option Nat→List Nat→List Nat→List Nat→List MOp→List Ent→List Fr→List (Nat×V)→Heap→Eff→Prop
 lokD:Cfg→List (List Nat)→List (Nat×V)→Heap→Option Nat→List Nat→List Nat→List Nat→List MOp→List Ent→List Fr→List (Nat×V)→Heap→Eff→Prop
 insG:Cfg→List (List Nat)→List (Nat×V)→Heap→a0a→Option Nat→List Nat→List MOp→List Ent→List Fr→List (Nat×V)→Heap→Prop
 opsDG:Cfg→List (List Nat)→List (Nat×V)→Heap→a0a→Option Nat→Nat→Bool→List MOp→List Ent→List Fr→List (Nat×V)→Heap→V→Prop
 go_regI:∀{c:Cfg} {e:List (Nat×V)} {h:Heap} {s:List Fr} {its:List It},go c (.regI its) s ⟨e,h⟩=kN c (.it its::s) ⟨e,h⟩
 kN_it_nil:∀{c:Cfg} {e:List (Nat×V)} {h:Heap} {s:List Fr},kN c (.it []::s) ⟨e,h⟩=kN c s ⟨e,h⟩
 kN_it_op:∀{c:Cfg} {e:List (Nat×V)} {h:Heap} {s:List Fr} {m:MOp} {its:List It},kN c (.it (.op m::its)::s) ⟨e,h⟩=ops c [m] (.it its::s) ⟨e,h⟩
 kN_it_nt:∀{c:Cfg} {e:List (Nat×V)} {h:Heap} {s:List Fr} {n:a4x} {its:List It},kN c (.it (.nt n::its)::s) ⟨e,h⟩=a0y c.H0 n ⟨e,h⟩ (kN c (.it its::s))
 kN_it_grp:∀{c:Cfg} {e:List (Nat×V)} {h:Heap} {s:List Fr} {ms:List MOp} {its:List It},kN c (.it (.grp ms::its)::s) ⟨e,h⟩=grpC c ms its s ⟨e,h⟩
 kX_it:∀{c:Cfg} {e:List (Nat×V)} {h:Heap} {s:List Fr} {its:List It} {n:Nat},kX c (.it its::s) n ⟨e,h⟩=kX c s n ⟨e,h⟩
 go_seq:∀{c:Cfg} {e:List (Nat×V)} {h:Heap} {s:List Fr} {a b:MC},go c (.seq a b) s ⟨e,h⟩=go c a (.sq b::s) ⟨e,h⟩
 go_block:∀{c:Cfg} {e:List (Nat×V)} {h:Heap} {s:List Fr} {id:Nat} {b:MC},go c (.block id b) s ⟨e,h⟩=go c b (.bl id::s) ⟨e,h⟩
 go_skip:∀{c:Cfg} {e:List (Nat×V)} {h:Heap} {s:List Fr},go c .skip s ⟨e,h⟩=kN c s ⟨e,h⟩
 go_ret:∀{c:Cfg} {e:List (Nat×V)} {h:Heap} {s:List Fr},go c .ret s ⟨e,h⟩=c.R ⟨e,h⟩
 go_exit:∀{c:Cfg} {e:List (Nat×V)} {h:Heap} {s:List Fr} {id:Nat},go c (.exit id) s ⟨e,h⟩=kX c s id ⟨e,h⟩
 go_reg:∀{c:Cfg} {e:List (Nat×V)} {h:Heap} {s:List Fr} {ms:List MOp},go c (.reg ms) s ⟨e,h⟩=ops c ms s ⟨e,h⟩
 go_cond:∀{c:Cfg} {e:List (Nat×V)} {h:Heap} {s:List Fr} {x:Opd} {a b:MC},go c (.cond x a b) s ⟨e,h⟩=goC c x a b s e h (x.ev e)
 go_note:∀{c:Cfg} {e:List (Nat×V)} {h:Heap} {s:List Fr} {n:a4x} {b:MC},go c (.note n b) s ⟨e,h⟩=a0y c.H0 n ⟨e,h⟩ (go c b s)
 b7t:∀{c:Cfg} {e:List (Nat×V)} {h:Heap} {s:List Fr} {T:St→(St→Prop)→Prop} {b:MC},go c (.hnote T b) s ⟨e,h⟩=T ⟨e,h⟩ (go c b s)
 kN_nil:∀{c:Cfg} {e:List (Nat×V)} {h:Heap},kN c [] ⟨e,h⟩=c.K ⟨e,h⟩
 kN_sq:∀{c:Cfg} {e:List (Nat×V)} {h:Heap} {s:List Fr} {b:MC},kN c (.sq b::s) ⟨e,h⟩=go c b s ⟨e,h⟩
 kN_bl:∀{c:Cfg} {e:List (Nat×V)} {h:Heap} {s:List Fr} {id:Nat},kN c (.bl id::s) ⟨e,h⟩=kN c s ⟨e,h⟩
 kX_nil:∀{c:Cfg} {e:List (Nat×V)} {h:Heap} {n:Nat},kX c [] n ⟨e,h⟩=c.X n ⟨e,h⟩
 kX_sq:∀{c:Cfg} {e:List (Nat×V)} {h:Heap} {s:List Fr} {b:MC} {n:Nat},kX c (.sq b::s) n ⟨e,h⟩=kX c s n ⟨e,h⟩
 kX_bl':∀{c:Cfg} {e:List (Nat×V)} {h:Heap} {s:List Fr} {id n:Nat},kX c (.bl id::s) n ⟨e,h⟩=bif n==id then kN c s ⟨e,h⟩ else kX c s n ⟨e,h⟩
 ops_nil:∀{c:Cfg} {e:List (Nat×V)} {h:Heap} {s:List Fr},ops c [] s ⟨e,h⟩=kN c s ⟨e,h⟩
 ops_guard:∀{c:Cfg} {e:List (Nat×V)} {h:Heap} {s:List Fr} {r:List MOp} {d:Option Nat} {i:a0a} {t:Nat} {w:Bool},ops c (⟨i,d,some (t,w)⟩::r) s ⟨e,h⟩=b5i c i d t w r s e h (get t e)
 ops_ins:∀{c:Cfg} {e:List (Nat×V)} {h:Heap} {s:List Fr} {r:List MOp} {d:Option Nat} {i:a0a},ops c (⟨i,d,none⟩::r) s ⟨e,h⟩=bif a1k c.H0 ⟨e,h⟩ (i.creates (d.getD 0)) then p9 c.P i (d.getD 0) (i.opds.map (·.ev e)) (c52 h) (aft c d r s e h) (lok c d r s e h) else False
 aft_eq:∀{c:Cfg} {e:List (Nat×V)} {h:Heap} {s:List Fr} {r:List MOp} {d:Option Nat} {v:V} {dr:List Nat} {nw:List (Nat×a0i)},aft c d r s e h ⟨v,dr,nw⟩=ops c r s ⟨c4f d v e,puts nw (c9f dr h)⟩
 aft_some:∀{c:Cfg} {e:List (Nat×V)} {h:Heap} {s:List Fr} {r:List MOp} {n:Nat} {v:V},a0x (aft c (some n) r s e h) v=ops c r s ⟨put n v e,h⟩
 aft_none:∀{c:Cfg} {e:List (Nat×V)} {h:Heap} {s:List Fr} {r:List MOp} {v:V},a0x (aft c none r s e h) v=ops c r s ⟨e,h⟩
 aft_up:∀{c:Cfg} {e:List (Nat×V)} {h:Heap} {s:List Fr} {r:List MOp} {n:Nat} {id:Nat} {o:a0i},a8v (aft c (some n) r s e h) id o=ops c r s ⟨put n .any e,put id o h⟩
 aft_upn:∀{c:Cfg} {e:List (Nat×V)} {h:Heap} {s:List Fr} {r:List MOp} {id:Nat} {o:a0i},a8v (aft c none r s e h) id o=ops c r s ⟨e,put id o h⟩
 lok_eq:∀{c:Cfg} {d:Option Nat} {r:List MOp} {s:List Fr} {e:List (Nat×V)} {h:Heap} {f:Eff},lok c d r s e h f=aft c d r s e h f
 lok_comp:∀{c:Cfg} {e:List (Nat×V)} {h:Heap} {s:List Fr} {r:List MOp} {d:Option Nat} {v:V},a0x (lok c d r s e h) v=a0x (aft c d r s e h) v
 lok_compU:∀{c:Cfg} {e:List (Nat×V)} {h:Heap} {s:List Fr} {r:List MOp} {d:Option Nat} {id:Nat} {o:a0i},a8v (lok c d r s e h) id o=a8v (aft c d r s e h) id o
 opsG_tup:∀{c:Cfg} {e:List (Nat×V)} {h:Heap} {s:List Fr} {r:List MOp} {d:Option Nat} {i:a0a} {t:Nat} {w:Bool},b5i c i d t w r s e h (.tup [])=ops c r s ⟨a7c d e,h⟩
 opsG_lit_tt:∀{c:Cfg} {e:List (Nat×V)} {h:Heap} {s:List Fr} {r:List MOp} {d:Option Nat} {i:a0a} {t:Nat},b5i c i d t true r s e h (.bool true)=ops c (⟨i,d,none⟩::r) s ⟨put t (.bool true) e,h⟩
 opsG_lit_ff:∀{c:Cfg} {e:List (Nat×V)} {h:Heap} {s:List Fr} {r:List MOp} {d:Option Nat} {i:a0a} {t:Nat},b5i c i d t false r s e h (.bool false)=ops c (⟨i,d,none⟩::r) s ⟨put t (.bool false) e,h⟩
 opsG_lit_tf:∀{c:Cfg} {e:List (Nat×V)} {h:Heap} {s:List Fr} {r:List MOp} {d:Option Nat} {i:a0a} {t:Nat},b5i c i d t false r s e h (.bool true)=ops c r s ⟨a7c d (put t (.bool true) e),h⟩
 opsG_lit_ft:∀{c:Cfg} {e:List (Nat×V)} {h:Heap} {s:List Fr} {r:List MOp} {d:Option Nat} {i:a0a} {t:Nat},b5i c i d t true r s e h (.bool false)=ops c r s ⟨a7c d (put t (.bool false) e),h⟩
 b1j:∀{c:Cfg} {e:List (Nat×V)} {h:Heap} {s:List Fr} {r:List MOp} {d:Option Nat} {i:a0a} {t:Nat} {p:Prop} [Decidable p],b5i c i d t true r s e h (.bool (decide p)) =
  ((p→ops c (⟨i,d,none⟩::r) s ⟨put t (.bool true) e,h⟩)∧(¬p→ops c r s ⟨a7c d (put t (.bool false) e),h⟩))
 b1k:∀{c:Cfg} {e:List (Nat×V)} {h:Heap} {s:List Fr} {r:List MOp} {d:Option Nat} {i:a0a} {t:Nat} {p:Prop} [Decidable p],b5i c i d t false r s e h (.bool (decide p)) =
  ((¬p→ops c (⟨i,d,none⟩::r) s ⟨put t (.bool false) e,h⟩)∧(p→ops c r s ⟨a7c d (put t (.bool true) e),h⟩))
 opsG_any:∀{c:Cfg} {e:List (Nat×V)} {h:Heap} {s:List Fr} {r:List MOp} {d:Option Nat} {i:a0a} {t:Nat} {w:Bool} (b:Bool),b5i c i d t w r s e h (.bool b) =
  ((b=w→ops c (⟨i,d,none⟩::r) s ⟨put t (.bool w) e,h⟩)∧(b=(!w)→ops c r s ⟨a7c d (put t (.bool (!w)) e),h⟩))
 goC_t:∀{c:Cfg} {e:List (Nat×V)} {h:Heap} {s:List Fr} {n:Nat} {a b:MC},goC c (.t n) a b s e h (.bool true)=go c a s ⟨put n (.bool true) e,h⟩
 goC_f:∀{c:Cfg} {e:List (Nat×V)} {h:Heap} {s:List Fr} {n:Nat} {a b:MC},goC c (.t n) a b s e h (.bool false)=go c b s ⟨put n (.bool false) e,h⟩
 goC_ct:∀{c:Cfg} {e:List (Nat×V)} {h:Heap} {s:List Fr} {v:V} {a b:MC},goC c (.c v) a b s e h (.bool true)=go c a s ⟨e,h⟩
 goC_cf:∀{c:Cfg} {e:List (Nat×V)} {h:Heap} {s:List Fr} {v:V} {a b:MC},goC c (.c v) a b s e h (.bool false)=go c b s ⟨e,h⟩
 c1q:∀{c:Cfg} {e:List (Nat×V)} {h:Heap} {s:List Fr} {n:Nat} {a b:MC} {p:Prop} [Decidable p],goC c (.t n) a b s e h (.bool (decide p)) =
  ((p→go c a s ⟨put n (.bool true) e,h⟩)∧(¬p→go c b s ⟨put n (.bool false) e,h⟩))
 goC_any:∀{c:Cfg} {e:List (Nat×V)} {h:Heap} {s:List Fr} {n:Nat} {a b:MC} (t:Bool),goC c (.t n) a b s e h (.bool t) =
  ((t=true→go c a s ⟨put n (.bool true) e,h⟩)∧(t=false→go c b s ⟨put n (.bool false) e,h⟩))
 go_regD:∀{c:Cfg} {e:List (Nat×V)} {h:Heap} {s:List Fr} {anc:List (List Nat)} {aft0:List (List Nat)} {ms:List MOp},go c (.regD ms aft0 anc) s ⟨e,h⟩=opsD c anc e h ms [] s ⟨e,h⟩
 opsD_nil:∀{c:Cfg} {e:List (Nat×V)} {h:Heap} {s:List Fr} {anc:List (List Nat)} {e0:List (Nat×V)} {h0:Heap} {log:List Ent},opsD c anc e0 h0 [] log s ⟨e,h⟩=(f9y c.H0 ⟨e0,h0⟩ 0 anc log.reverse∧kN c s ⟨e,h⟩)
 opsD_ins:∀{c:Cfg} {e:List (Nat×V)} {h:Heap} {s:List Fr} {r:List MOp} {d:Option Nat} {i:a0a} {anc:List (List Nat)} {e0:List (Nat×V)} {h0:Heap} {log:List Ent},opsD c anc e0 h0 (⟨i,d,none⟩::r) log s ⟨e,h⟩=insG c anc e0 h0 i d [] r log s e h
 opsD_guard:∀{c:Cfg} {e:List (Nat×V)} {h:Heap} {s:List Fr} {r:List MOp} {d:Option Nat} {i:a0a} {anc:List (List Nat)} {e0:List (Nat×V)} {h0:Heap} {log:List Ent} {n:Nat} {w:Bool},opsD c anc e0 h0 (⟨i,d,some (n,w)⟩::r) log s ⟨e,h⟩=opsDG c anc e0 h0 i d n w r log s e h (get n e)
 insG_eq:∀{c:Cfg} {e:List (Nat×V)} {h:Heap} {s:List Fr} {r:List MOp} {d:Option Nat} {i:a0a} {anc:List (List Nat)} {e0:List (Nat×V)} {h0:Heap} {log:List Ent} {gs:List Nat},insG c anc e0 h0 i d gs r log s e h=bif a1k c.H0 ⟨e,h⟩ (i.creates (d.getD 0)) then
  a1f c.P i (d.getD 0) (i.opds.map (·.ev e)) (c52 h) (aftD c anc e0 h0 d (gs++slotsOf i.opds) (i.touch (i.opds.map (·.ev e))) (i.creates (d.getD 0)) r log s e h)
   (lokD c anc e0 h0 d (gs++slotsOf i.opds) (i.touch (i.opds.map (·.ev e))) (i.creates (d.getD 0)) r log s e h)
 else False
 aftD_eq:∀{c:Cfg} {e:List (Nat×V)} {h:Heap} {s:List Fr} {r:List MOp} {d:Option Nat} {anc:List (List Nat)} {e0:List (Nat×V)} {h0:Heap} {log:List Ent} {u:List Nat} {t:List Nat} {m:List Nat} {v:V} {dr:List Nat} {nw:List (Nat×a0i)},aftD c anc e0 h0 d u t m r log s e h ⟨v,dr,nw⟩=opsD c anc e0 h0 r (⟨d,some ⟨v,dr,nw⟩,u,t,m⟩::log) s ⟨c4f d v e,puts nw (c9f dr h)⟩
 aftD_comp:∀{c:Cfg} {e:List (Nat×V)} {h:Heap} {s:List Fr} {r:List MOp} {d:Option Nat} {anc:List (List Nat)} {e0:List (Nat×V)} {h0:Heap} {log:List Ent} {u:List Nat} {t:List Nat} {m:List Nat} {v:V},a0x (aftD c anc e0 h0 d u t m r log s e h) v=opsD c anc e0 h0 r (⟨d,some ⟨v,[],[]⟩,u,t,m⟩::log) s ⟨c4f d v e,h⟩
 aftD_up:∀{c:Cfg} {e:List (Nat×V)} {h:Heap} {s:List Fr} {r:List MOp} {d:Option Nat} {anc:List (List Nat)} {e0:List (Nat×V)} {h0:Heap} {log:List Ent} {u:List Nat} {t:List Nat} {m:List Nat} {id:Nat} {o:a0i},a8v (aftD c anc e0 h0 d u t m r log s e h) id o=opsD c anc e0 h0 r (⟨d,some ⟨.any,[],[(id,o)]⟩,u,t,m⟩::log) s ⟨c4f d .any e,put id o h⟩
 lokD_eq:∀{c:Cfg} {e:List (Nat×V)} {h:Heap} {s:List Fr} {r:List MOp} {d:Option Nat} {anc:List (List Nat)} {e0:List (Nat×V)} {h0:Heap} {log:List Ent} {u:List Nat} {t:List Nat} {m:List Nat} {f:Eff},lokD c anc e0 h0 d u t m r log s e h f=aftD c anc e0 h0 d u t m r log s e h f
 lokD_comp:∀{c:Cfg} {e:List (Nat×V)} {h:Heap} {s:List Fr} {r:List MOp} {d:Option Nat} {anc:List (List Nat)} {e0:List (Nat×V)} {h0:Heap} {log:List Ent} {u:List Nat} {t:List Nat} {m:List Nat} {v:V},a0x (lokD c anc e0 h0 d u t m r log s e h) v=a0x (aftD c anc e0 h0 d u t m r log s e h) v
 lokD_compU:∀{c:Cfg} {e:List (Nat×V)} {h:Heap} {s:List Fr} {r:List MOp} {d:Option Nat} {anc:List (List Nat)} {e0:List (Nat×V)} {h0:Heap} {log:List Ent} {u:List Nat} {t:List Nat} {m:List Nat} {id:Nat} {o:a0i},a8v (lokD c anc e0 h0 d u t m r log s e h) id o=a8v (aftD c anc e0 h0 d u t m r log s e h) id o
 opsDG_tup:∀{c:Cfg} {e:List (Nat×V)} {h:Heap} {s:List Fr} {r:List MOp} {d:Option Nat} {i:a0a} {anc:List (List Nat)} {e0:List (Nat×V)} {h0:Heap} {log:List Ent} {n:Nat} {w:Bool},opsDG c anc e0 h0 i d n w r log s e h (.tup [])=opsD c anc e0 h0 r (⟨d,none,[n],[],[]⟩::log) s ⟨a7c d e,h⟩
 opsDG_tt:∀{c:Cfg} {e:List (Nat×V)} {h:Heap} {s:List Fr} {r:List MOp} {d:Option Nat} {i:a0a} {anc:List (List Nat)} {e0:List (Nat×V)} {h0:Heap} {log:List Ent} {n:Nat},opsDG c anc e0 h0 i d n true r log s e h (.bool true)=insG c anc e0 h0 i d [n] r log s (put n (.bool true) e) h
 opsDG_ff:∀{c:Cfg} {e:List (Nat×V)} {h:Heap} {s:List Fr} {r:List MOp} {d:Option Nat} {i:a0a} {anc:List (List Nat)} {e0:List (Nat×V)} {h0:Heap} {log:List Ent} {n:Nat},opsDG c anc e0 h0 i d n false r log s e h (.bool false)=insG c anc e0 h0 i d [n] r log s (put n (.bool false) e) h
 opsDG_tf:∀{c:Cfg} {e:List (Nat×V)} {h:Heap} {s:List Fr} {r:List MOp} {d:Option Nat} {i:a0a} {anc:List (List Nat)} {e0:List (Nat×V)} {h0:Heap} {log:List Ent} {n:Nat},opsDG c anc e0 h0 i d n false r log s e h (.bool true)=opsD c anc e0 h0 r (⟨d,none,[n],[],[]⟩::log) s ⟨a7c d (put n (.bool true) e),h⟩
 opsDG_ft:∀{c:Cfg} {e:List (Nat×V)} {h:Heap} {s:List Fr} {r:List MOp} {d:Option Nat} {i:a0a} {anc:List (List Nat)} {e0:List (Nat×V)} {h0:Heap} {log:List Ent} {n:Nat},opsDG c anc e0 h0 i d n true r log s e h (.bool false)=opsD c anc e0 h0 r (⟨d,none,[n],[],[]⟩::log) s ⟨a7c d (put n (.bool false) e),h⟩
 a98:∀{c:Cfg} {e:List (Nat×V)} {h:Heap} {s:List Fr} {r:List MOp} {d:Option Nat} {i:a0a} {anc:List (List Nat)} {e0:List (Nat×V)} {h0:Heap} {log:List Ent} {n:Nat} {p:Prop} [Decidable p],opsDG c anc e0 h0 i d n true r log s e h (.bool (decide p)) =
  ((p→insG c anc e0 h0 i d [n] r log s (put n (.bool true) e) h)∧(¬p→opsD c anc e0 h0 r (⟨d,none,[n],[],[]⟩::log) s ⟨a7c d (put n (.bool false) e),h⟩))
 a99:∀{c:Cfg} {e:List (Nat×V)} {h:Heap} {s:List Fr} {r:List MOp} {d:Option Nat} {i:a0a} {anc:List (List Nat)} {e0:List (Nat×V)} {h0:Heap} {log:List Ent} {n:Nat} {p:Prop} [Decidable p],opsDG c anc e0 h0 i d n false r log s e h (.bool (decide p)) =
  ((¬p→insG c anc e0 h0 i d [n] r log s (put n (.bool false) e) h)∧(p→opsD c anc e0 h0 r (⟨d,none,[n],[],[]⟩::log) s ⟨a7c d (put n (.bool true) e),h⟩))
 opsDG_bool:∀{c:Cfg} {e:List (Nat×V)} {h:Heap} {s:List Fr} {r:List MOp} {d:Option Nat} {i:a0a} {anc:List (List Nat)} {e0:List (Nat×V)} {h0:Heap} {log:List Ent} {n:Nat} {w b:Bool},opsDG c anc e0 h0 i d n w r log s e h (.bool b) =
  a4n b w (insG c anc e0 h0 i d [n] r log s (put n (.bool w) e) h) (opsD c anc e0 h0 r (⟨d,none,[n],[],[]⟩::log) s ⟨a7c d (put n (.bool (!w)) e),h⟩)
 go_loop:∀{c:Cfg} {e:List (Nat×V)} {h:Heap} {s:List Fr} {b:MC} {α:Type} (I:α→St) (p:α→Prop) (μ:α→Nat) (ns:List a4x),(a0q c.H0 ns ⟨e,h⟩ fun σ'=>∃x,p x∧a0u (I x) σ') →
  (∀x,p x→factsSt (I x)→go ⟨c.P,c.H0,fun σ'=>Lk (a0q c.H0 ns σ' fun σ'=>∃y,p y∧μ y<μ x∧a0u (I y) σ'),kX c s,c.R⟩ b [] (I x))→go c (.loop b) s ⟨e,h⟩
 go_cut:∀{c:Cfg} {e:List (Nat×V)} {h:Heap} {s:List Fr} {a b:MC} {α:Type} (I:α→St) (p:α→Prop) (ns:List a4x),go ⟨c.P,c.H0,fun σ'=>Lk (a0q c.H0 ns σ' fun σ'=>∃y,p y∧a0u (I y) σ'),kX c s,c.R⟩ a [] ⟨e,h⟩ →
  (∀y,p y→factsSt (I y)→go c b s (I y))→go c (.cut a b) s ⟨e,h⟩
 go_grp:∀{c:Cfg} {e:List (Nat×V)} {h:Heap} {s:List Fr} {ms:List MOp} {its:List It} {α:Type} (I:α→St) (p:α→Prop),ops ⟨c.P,c.H0,fun σ'=>Lk (∃y,p y∧a0u (I y) σ'),fun _ _=>False,fun _=>False⟩ ms [] ⟨e,h⟩ →
  (∀y,p y→factsSt (I y)→kN c (.it its::s) (I y))→grpC c ms its s ⟨e,h⟩
 go_rngF:∀{c:Cfg} {e:List (Nat×V)} {h:Heap} {s:List Fr} {q:Opd} {ps:List Nat} {a b:MC} {gf:Nat} {caps:List V} {α:Type} (Hc:Heap) (xss:List (List V)) (pins:List Nat) (I:Nat→α→Heap) (p:Nat→α→Prop) (ns:List a4x),
  q.ev e=.fn (.func gf) caps→b89 c.P gf caps Hc xss→a0u ⟨[],Hc⟩ ⟨e,h⟩→b9o pins e=true→(∀xs∈xss,xs.length=ps.length∧V.withinL [] xs=true)→(∃x,p 0 x∧a0u ⟨[],I 0 x⟩ ⟨e,h⟩∧∀q∈Hc,find q.1 (I 0 x)=none) →
  (∀k x xs,xss[k]?=some xs→p k x→b0i (I k x)→go ⟨c.P,b7i c.H0 pins,fun σ'=>Lk (a0q (b7i c.H0 pins) ns σ' fun σ'=>∃y,p (k+1) y∧a0u ⟨[],I (k+1) y⟩ σ'),fun i σ'=>kX c s i ⟨e,σ'.heap⟩,fun σ'=>c.R ⟨e,σ'.heap⟩⟩ (.seq a b) [] ⟨b5k ps xs e,I k x⟩) →
  a.straight=true→(∀x,p xss.length x→kN c s ⟨e,I xss.length x⟩)→go c (.rngF q ps a b) s ⟨e,h⟩
def g79:a15 where
 grpC:=grpC
 kN:=kN
 kX:=kX
 go:=go
 ops:=ops
 aft:=aft
 lok:=lok
 b5i:=b5i
 goC:=goC
 opsD:=opsD
 aftD:=aftD
 lokD:=lokD
 insG:=insG
 opsDG:=opsDG
 go_regI:=go_regI
 kN_it_nil:=kN_it_nil
 kN_it_op:=kN_it_op
 kN_it_nt:=kN_it_nt
 kN_it_grp:=kN_it_grp
 kX_it:=kX_it
 go_seq:=go_seq
 go_block:=go_block
 go_skip:=go_skip
 go_ret:=go_ret
 go_exit:=go_exit
 go_reg:=go_reg
 go_cond:=go_cond
 go_note:=go_note
 b7t:=b7t
 kN_nil:=kN_nil
 kN_sq:=kN_sq
 kN_bl:=kN_bl
 kX_nil:=kX_nil
 kX_sq:=kX_sq
 kX_bl':=kX_bl'
 ops_nil:=ops_nil
 ops_guard:=ops_guard
 ops_ins:=ops_ins
 aft_eq:=aft_eq
 aft_some:=aft_some
 aft_none:=aft_none
 aft_up:=aft_up
 aft_upn:=aft_upn
 lok_eq:=lok_eq
 lok_comp:=lok_comp
 lok_compU:=lok_compU
 opsG_tup:=opsG_tup
 opsG_lit_tt:=opsG_lit_tt
 opsG_lit_ff:=opsG_lit_ff
 opsG_lit_tf:=opsG_lit_tf
 opsG_lit_ft:=opsG_lit_ft
 b1j:=b1j
 b1k:=b1k
 opsG_any:=opsG_any
 goC_t:=goC_t
 goC_f:=goC_f
 goC_ct:=goC_ct
 goC_cf:=goC_cf
 c1q:=c1q
 goC_any:=goC_any
 go_regD:=go_regD
 opsD_nil:=opsD_nil
 opsD_ins:=opsD_ins
 opsD_guard:=opsD_guard
 insG_eq:=insG_eq
 aftD_eq:=aftD_eq
 aftD_comp:=aftD_comp
 aftD_up:=aftD_up
 lokD_eq:=lokD_eq
 lokD_comp:=lokD_comp
 lokD_compU:=lokD_compU
 opsDG_tup:=opsDG_tup
 opsDG_tt:=opsDG_tt
 opsDG_ff:=opsDG_ff
 opsDG_tf:=opsDG_tf
 opsDG_ft:=opsDG_ft
 a98:=a98
 a99:=a99
 opsDG_bool:=opsDG_bool
 go_loop:=go_loop
 go_cut:=go_cut
 go_grp:=go_grp
 go_rngF:=go_rngF
theorem c2e {P:Program} {f:Nat} {fn:Func} {code:Code} {mc:MC} {args:List V} {H:Heap} {Q:V→Heap→Prop} (ns:List a4x) (rids:List Nat) (rs:List RS) (hf:P.funcs[f]?=some fn) (hb:fn.body=some code) (hc:callable P f=true)
  (hnh:mc.nh=true) (hok:mc.ok P fn.ntmps code=true) (hrs:a6u P rs fn.results.toList=true) (hn:Nat.ble args.length fn.ntmps=true) (hg:St.good ⟨a4q 0 args,H⟩=true)
  (h:∀M:a15,factsSt ⟨a4q 0 args,H⟩→M.go ⟨P,H,a2i H ns rids rs Q,fun _ _=>False,a2i H ns rids rs Q⟩ mc [] ⟨a4q 0 args,H⟩):a0s P f args H Q :=
 c43 ns rids rs hf hb hc hnh hok hrs hn hg fun hfa=>h g79 hfa
theorem c5z {P:Program} {f:Nat} {fn:Func} {code:Code} {mc:MC} {args:List V} {H:Heap} {Q:V→Heap→Prop} (rids:List Nat) (rs:List RS) (hf:P.funcs[f]?=some fn) (hb:fn.body=some code) (hc:callable P f=true)
  (hnh:mc.nh=true) (hok:mc.ok P fn.ntmps code=true) (hrs:a6u P rs fn.results.toList=true) (hn:Nat.ble args.length fn.ntmps=true) (hg:St.good ⟨a4q 0 args,H⟩=true)
  (h:∀M:a15,factsSt ⟨a4q 0 args,H⟩→M.go ⟨P,H,d4h rids rs Q,fun _ _=>False,d4h rids rs Q⟩ mc [] ⟨a4q 0 args,H⟩):a0s P f args H Q :=
 c43 [] rids rs hf hb hc hnh hok hrs hn hg fun hfa=>h g79 hfa
end Go.Ab
namespace Go.Ab
open Go.RowKit Go.Sort
variable {P:Program}
theorem c5t {b:Bool}:(V.bool b).cells=[.bool b]:=rfl
theorem c9u {k:IntKind} {n:Int}:(V.int k n).cells=[.int k n]:=rfl
theorem c9r {s:List UInt8}:(V.str s).cells=[.str s]:=rfl
theorem c5m:V.nils.cells=[.nils]:=rfl
theorem c5n:V.nilp.cells=[.nilp]:=rfl
theorem c5o:V.nilm.cells=[.nilm]:=rfl
theorem c5q:V.nilf.cells=[.nilf]:=rfl
theorem c5p:V.nili.cells=[.nili]:=rfl
theorem c9v {cs:List V}:(V.agg cs).cells=cs:=rfl
theorem d42 {xs:List V}:(V.sl xs).cells=[.sl xs]:=rfl
theorem c9s {a b:Nat}:(V.ptr a b).cells=[.ptr a b]:=rfl
theorem c5r {x:V} {b:Nat}:(V.eptr x b).cells=[.eptr x b]:=rfl
theorem c9t {a b c d:Nat}:(V.osl a b c d).cells=[.osl a b c d]:=rfl
theorem c5k {a b c d:Nat}:(V.optr a b c d).cells=[.optr a b c d]:=rfl
theorem c5l {a:Nat}:(V.omap a).cells=[.omap a]:=rfl
theorem c5s {a:Nat}:(V.bptr a).cells=[.bptr a]:=rfl
theorem d43 {f:Fn} {c:List V}:(V.fn f c).cells=[.fn f c]:=rfl
theorem c1z {c:UInt8}:(a18 c).cells=[a18 c]:=rfl
theorem c5e {p:V→Prop} {a:V}:(∀y∈[a],p y)↔p a:=by simp
theorem c1r {p:V→Prop}:(∀y∈([]:List V),p y)↔True:=by simp
theorem d47 {l:List UInt8}:(∀y∈l.map a18,y.cells.length=1)↔True:=by simp [a18,V.cells]
theorem d96 {k:IntKind} {l:List Int}:(∀y∈l.map (fun n=>V.int k n),y.cells.length=1)↔True:=by simp [V.cells]
theorem e2o {vals:Array Value} (h:vals.size=1):vals=#[vals.getD 0 undef]:=by
 refine Array.ext (by simpa using h) fun i h1 h2=>?_
 simp at h2;subst h2
 simp [zC,h]
theorem g7e {vals:Array Value} (h:vals.size=2):vals=#[vals.getD 0 undef,vals.getD 1 undef]:=by
 refine Array.ext (by simpa using h) fun i h1 h2=>?_
 simp at h2
 match i,h2 with
 | 0,_=>simp [zC,h]
 | 1,_=>simp [zC,h]
theorem a1l {f:Nat} {args:List V} {H:Heap} (e:Eff) (hc:callable P f=true)
  (h:∀g w (vals:Array Value),a3p P g w H→vals.size=args.length→(∀(i:Nat) (x:V),args[i]?=some x→VR g w (vals.getD i undef) x) →
   Calls P f vals w fun en w'=>∃v g',en=.returned v∧a09 g H w e g' w'∧a13 H g g' ⟨[],H⟩ e∧VR g' w' v e.val):a0s P f args H (fun r H'=>r=e.val∧H'=e.heap H):=by
 refine ⟨hc,fun g w vals hH hl hv=>(h g w vals hH hl hv).mono ?_⟩
 rintro en w' ⟨v,g',rfl,hs,hf,hvr⟩
 have h1:=a3p.step (σ:=⟨[],H⟩) hH hs hf
 have h0:Frm ⟨w,g,H,0,[],[],H,g,w⟩ g w H:=⟨rfl,rfl,rfl,vJ _,fun _ _ _=>rfl,fun id o ho hn=>⟨.inr ⟨id,o,ho,hn,rfl⟩,fun _ h=>by cases h⟩,fun _ h=>h.elim id id,fun _ h=>⟨.inl h,fun _ h=>by cases h⟩,fun id _ _=>Gh.agree.refl g id⟩
 refine ⟨v,e.val,e.heap H,g',rfl,⟨rfl,rfl⟩,h1.2.1,hvr,Frm.step (c:=⟨w,g,H,0,[],[],H,g,w⟩) (σ:=⟨[],H⟩) (ds:=[]) ⟨rfl,fun _ _ h=>(by cases h),fun _ _=>rfl⟩ h0 hs hf,fun id hid=>hs.agree id fun o ho=>?_⟩
 have : ∀{l:List (Nat×a0i)} {G:Heap},(id,o)∈l→find id (puts l G)≠none:=by
  intro l
  induction l with
  | nil=>intro G h;cases h
  | cons p r ih =>
   intro G hm
   obtain ⟨n,q⟩:=p
   rw [puts]
   by_cases hr:∃o',(id,o')∈r
   ·obtain ⟨o',ho'⟩:=hr
    have aux:∀{l:List (Nat×a0i)} {G:Heap} {o':a0i},(id,o')∈l→find id (puts l G)≠none:=by
     intro l
     induction l with
     | nil=>intro G o' h;cases h
     | cons p r ih =>
      intro G o' hm
      obtain ⟨n,q⟩:=p
      rw [puts]
      by_cases hr:∃o',(id,o')∈r
      ·obtain ⟨o'',h''⟩:=hr;exact ih h''
      ·rw [a2a fun o h=>hr ⟨o,h⟩,a10]
       rcases wY.1 hm with hm|hm
       ·cases hm;simp
       ·exact absurd ⟨_,hm⟩ hr
    exact aux ho'
   ·rw [a2a fun o h=>hr ⟨o,h⟩,a10]
    rcases wY.1 hm with hm|hm
    ·cases hm;simp
    ·exact absurd ⟨_,hm⟩ hr
 exact this ho hid
theorem a09.grown {g:Gh} {H:Heap} {w w':World} (x:V) (dr:List Nat) (hlt:∀b,g.S b→b<w.heap.size) (h1:w'.os=w.os) (h2:w'.tape=w.tape) (h3:w'.output=w.output) (h4:w.heap.size≤w'.heap.size)
  (h5:∀b,b<w.heap.size→(∀id o,id∈dr→find id H=some o→¬g.nil id→g.ρ id≠b)→w'.heap[b]?=w.heap[b]?):a09 g H w ⟨x,dr,[]⟩ g w' :=
 ⟨h1,h2,h3,h4,fun b hb hn=>h5 b hb fun id o hd=>hn id o (by simpa [Eff.ids] using hd),fun _ h=>h,fun b hb=>.inl hb,fun b hb=>xE (hlt b hb) h4,
  fun id _=>Gh.agree.refl _ _,fun _ _ h=>by simp at h,fun _ _ h=>by simp at h,fun _ _ _ _ h=>by simp at h,fun _ _ h=>by simp at h⟩
theorem a13.none {H0:Heap} {g:Gh} {σ:St} (x:V) (dr:List Nat):a13 H0 g g σ ⟨x,dr,[]⟩:=fun _ _ h=>by simp at h
theorem b8h {g:Gh} {w:World} (l:List UInt8) (h:l.length≤9223372036854775807):VR g w (.string ⟨l.toArray⟩) (.str l):=by
 have:=Rd.str (S:=g.S) (w:=w) ⟨l.toArray⟩ (by
  have:(ByteArray.mk l.toArray).size=l.length:=by simp [ByteArray.size]
  rw [this];unfold maxLen;omega)
 exact .rd (by simpa using this)
theorem b6y {f:Nat} {args:List V} {r:V} (hc:callable P f=true)
  (h:∀g w (vals:Array Value),a3p P g w []→vals.size=args.length→(∀(i:Nat) (x:V),args[i]?=some x→VR g w (vals.getD i undef) x) →
   Calls P f vals w fun en w'=>∃v,en=.returned v∧(∀g w',VR g w' v r)∧∃k os,w'=grow (w.drewN k) os):a0s P f args [] (fun r' H'=>r'=r∧H'=[]):=by
 refine a1l ⟨r,[],[]⟩ hc fun g w vals hH hl hv=>(h g w vals hH hl hv).mono ?_
 rintro en w' ⟨v,rfl,hvr,k,os,rfl⟩
 refine ⟨v,g,rfl,a09.grown r [] hH.lt rfl rfl rfl ?_ ?_,a13.none _ _,hvr g _⟩
 ·simp [World.drewN]
 ·intro b hb _
  exact heap_grow_old (w.drewN k) os hb
theorem liesAt_bytes' {e:TypeId} (hc:P.cellsOf e=1) (count off n:Nat) (hn:off+n≤count):liesAt P P.depth e count off e n=true:=by
 have hd:P.depth=(2*(P.types.size+Made.depth)+1)+1:=rfl
 rw [hd]
 simp only [liesAt,wR]
 left
 rw [hd]
 simp only [rowAt,hc,sameLayout]
 simp [Nat.mod_one,hn]
theorem a96 (w:World) (pt it ty e:TypeId) (hp:P.underlying pt=some (.pointer e)) (hc:P.cellsOf e=1) (g o cells:Nat) (hsh:w.shape? g=some (e,cells)) (l:List UInt8) (h0:l≠[]) (hn:o+l.length≤cells)
  (h63:l.length≤9223372036854775807) (hcell:∀j x,l[j]?=some x→w.cell? ((⟨g,o,none⟩:Addr).add j)=some (.int .u8 x.toNat)) :
  (Builtin.unsafeString_ #[pt,it] ty #[.pointer (some ⟨g,o,none⟩),.int .i64 l.length]).run P w=.ok (.string ⟨l.toArray⟩) (w.freeze ⟨g,o,none⟩ l.length):=by
 have hl:l.length≠0:=by simpa using h0
 have hlb:=Lib.run_loadBytes (P:=P) w l ⟨g,o,none⟩ .empty hcell
 have hlies:=liesAt_bytes' (P:=P) hc (cells / P.cellsOf e) o l.length (by rw [hc];simpa using hn)
 have h63':¬(9223372036854775807:Int)<(l.length:Int):=by omega
 have hneg:¬(l.length:Int)<0:=by omega
 have hmax:IntKind.i64.max=9223372036854775807:=rfl
 obtain ⟨x1,x2,x3,body⟩:∃ x1 x2 x3,Builtin.unsafeString_ #[pt,it] ty #[.pointer (some ⟨g,o,none⟩),.int .i64 l.length]=(do
   let n ←asInt (.int .i64 l.length)
   if n<0 then x1
   if n > IntKind.i64.max then x2
   if n=0 then pure (.string .empty)
   else if ←variablesAt ⟨g,o,none⟩ (←elemOf pt) n.toNat then do
    let s ←loadBytes ⟨g,o,none⟩ .empty n.toNat
    freeze ⟨g,o,none⟩ n.toNat
    pure (.string s)
   else x3):=⟨_,_,_,rfl⟩
 rw [body]
 simp [asInt,asIntOf,hmax,h63',hneg,hl,variablesAt,hsh,elemOf,run_underlying hp,hlies,hlb]
end Go.Ab
namespace Go.Ab
open Go.RowKit
theorem getD_lt {α:Type} {l:List α} {i:Nat} {d:α} (h:i<l.length):l[i]?=some (l.getD i d):=by simp [h]
theorem c2p {α:Type} [Inhabited α] {k:Nat} {f:α→V} {l:List α} {kk:IntKind} {n:Int} {K L:V→Prop} :
  d0f k (.sl (l.map f)) (.int kk n) K L=((0≤n∧n<l.length)∧(f (l.getD n.toNat default)).cells.length=k∧L (.eptr (f (l.getD n.toNat default)) 0)):=by
 refine propext ⟨fun ⟨h0,y,h1,h2,h3⟩=>?_,fun ⟨⟨h0,h1⟩,h2,h3⟩=>⟨h0,_,?_,h2,h3⟩⟩
 ·rw [xQ] at h1
  cases hl:l[n.toNat]? with
  | none=>rw [hl] at h1;cases h1
  | some a =>
   rw [hl] at h1;cases h1
   have hlt:=(zG.1 hl).1
   have e:l.getD n.toNat default=a:=by simp [List.getD,hl]
   rw [e];exact ⟨⟨h0,by omega⟩,h2,h3⟩
 ·rw [xQ,getD_lt (by omega)];rfl
theorem d19 {id k k' lo m:Nat} {kk:IntKind} {n:Int} {K L:V→Prop}:d0f k (.osl id k' lo m) (.int kk n) K L=bif Nat.beq k k' then (0≤n∧n<m)∧K (.optr id k (lo+n.toNat) 0) else False:=rfl
theorem d5h {α:Type} [Inhabited α] {f:α→V} {l:List α} {i:Nat} {p:V→Prop}:(∃x,(l.map f)[i]?=some x∧p x)=(i<l.length∧p (f (l.getD i default))):=by
 refine propext ⟨fun ⟨x,h1,h2⟩=>?_,fun ⟨h1,h2⟩=>⟨_,?_,h2⟩⟩
 ·rw [xQ] at h1
  cases hl:l[i]? with
  | none=>rw [hl] at h1;cases h1
  | some a =>
   rw [hl] at h1;cases h1
   have e:l.getD i default=a:=by simp [List.getD,hl]
   rw [e];exact ⟨(zG.1 hl).1,h2⟩
 ·rw [xQ,getD_lt h1];rfl
theorem c9y {a b:UInt8} (h:a18 a=a18 b):a=b:=by
 simp only [a18,V.int.injEq,true_and] at h
 exact UInt8.toNat_inj.1 (by omega)
theorem bytes_inj {a b:List UInt8} (h:a.map a18=b.map a18):a=b:=List.map_inj_right (fun _ _ h=>c9y h)|>.1 h
theorem b7y {s:List UInt8} {p:List UInt8→Prop}:(∃t:List UInt8,s.map a18=t.map a18∧p t)=p s :=
 propext ⟨fun ⟨t,h1,h2⟩=>by rw [bytes_inj h1];exact h2,fun h=>⟨s,rfl,h⟩⟩
theorem b9m {s:List UInt8} {lo n:Nat} {p:List UInt8→Prop}:(∃t:List UInt8,((s.map a18).drop lo).take n=t.map a18∧t.length=n∧p t)=(((s.drop lo).take n).length=n∧p ((s.drop lo).take n)):=by
 rw [←List.map_drop,←List.map_take]
 exact propext ⟨fun ⟨t,h1,h2,h3⟩=>by rw [bytes_inj h1];exact ⟨h2,h3⟩,fun ⟨h1,h2⟩=>⟨_,rfl,h1,h2⟩⟩
section
variable {M:a15} {c:Cfg} {d:Option Nat} {r:List MOp} {s:List Fr} {e e0:List (Nat×V)} {h h0:Heap} {anc:List (List Nat)} {u t m:List Nat} {log:List Ent}
theorem a15.iad_map {α:Type} [Inhabited α] {k:Nat} {f:α→V} {l:List α} {kk:IntKind} {n:Int} {K:V→Prop} :
  d0f k (.sl (l.map f)) (.int kk n) K (a0x (M.lok c d r s e h))=((0≤n∧n<l.length)∧(f (l.getD n.toNat default)).cells.length=k∧a0x (M.aft c d r s e h) (.eptr (f (l.getD n.toNat default)) 0)):=by
 rw [c2p,M.lok_comp]
theorem a15.iad_mapD {α:Type} [Inhabited α] {k:Nat} {f:α→V} {l:List α} {kk:IntKind} {n:Int} {K:V→Prop} :
  d0f k (.sl (l.map f)) (.int kk n) K (a0x (M.lokD c anc e0 h0 d u t m r log s e h))=((0≤n∧n<l.length)∧(f (l.getD n.toNat default)).cells.length=k∧a0x (M.aftD c anc e0 h0 d u t m r log s e h) (.eptr (f (l.getD n.toNat default)) 0)):=by
 rw [c2p,M.lokD_comp]
theorem a15.ex_part {α:Type} [Inhabited α] {f:α→V} {l:List α} {i off:Nat} {n:Option Nat} :
  (∃x,(l.map f)[i]?=some x∧part n off x.cells (a0x (M.lok c d r s e h)))=(i<l.length∧part n off (f (l.getD i default)).cells (a0x (M.aft c d r s e h))):=by
 rw [d5h]
 have:a0x (M.lok c d r s e h)=a0x (M.aft c d r s e h):=funext fun v=>M.lok_comp
 rw [this]
theorem a15.ex_partD {α:Type} [Inhabited α] {f:α→V} {l:List α} {i off:Nat} {n:Option Nat} :
  (∃x,(l.map f)[i]?=some x∧part n off x.cells (a0x (M.lokD c anc e0 h0 d u t m r log s e h)))=(i<l.length∧part n off (f (l.getD i default)).cells (a0x (M.aftD c anc e0 h0 d u t m r log s e h))):=by
 rw [d5h]
 have:a0x (M.lokD c anc e0 h0 d u t m r log s e h)=a0x (M.aftD c anc e0 h0 d u t m r log s e h):=funext fun v=>M.lokD_comp
 rw [this]
theorem a15.b2s_sl {b:List UInt8}:(∃t:List UInt8,b.map a18=t.map a18∧a0x (M.lok c d r s e h) (.str t))=a0x (M.aft c d r s e h) (.str b):=by rw [b7y,M.lok_comp]
theorem a15.b2s_slD {b:List UInt8}:(∃t':List UInt8,b.map a18=t'.map a18∧a0x (M.lokD c anc e0 h0 d u t m r log s e h) (.str t'))=a0x (M.aftD c anc e0 h0 d u t m r log s e h) (.str b):=by rw [b7y,M.lokD_comp]
theorem a15.b2s_osl {b:List UInt8} {lo n:Nat}:(∃t:List UInt8,((b.map a18).drop lo).take n=t.map a18∧t.length=n∧a0x (M.lok c d r s e h) (.str t))=(((b.drop lo).take n).length=n∧a0x (M.aft c d r s e h) (.str ((b.drop lo).take n))):=by rw [b9m,M.lok_comp]
theorem a15.b2s_oslD {b:List UInt8} {lo n:Nat}:(∃t':List UInt8,((b.map a18).drop lo).take n=t'.map a18∧t'.length=n∧a0x (M.lokD c anc e0 h0 d u t m r log s e h) (.str t'))=(((b.drop lo).take n).length=n∧a0x (M.aftD c anc e0 h0 d u t m r log s e h) (.str ((b.drop lo).take n))):=by rw [b9m,M.lokD_comp]
end
theorem h0p {a b:Nat}:Nat.blt a b=Nat.ble (a+1) b:=rfl
theorem d0x {α:Type} {f:α→V} {l:List α} {n:Nat}:(l.map f).take n=(l.take n).map f:=List.map_take.symm
theorem d3s {α:Type} {f:α→V} {l:List α} {n:Nat}:(l.map f).drop n=(l.drop n).map f:=List.map_drop.symm
theorem g26 {α:Type} {l:List α}:l.drop 0=l:=rfl
theorem g2g {P:Program} {n0:Nat} {vs:List V} {ob:Nat→Option a0i} {K L:Eff→Prop} {m:c0c} {xs:List Opd}:p9 P (.mp m xs) n0 vs ob K L=a2j m n0 vs ob K L:=propext vP
section
variable {P:Program} {n0:Nat} {vs:List V} {ob:Nat→Option a0i} {K L:Eff→Prop} {xs:List Opd}
theorem g2b {kd:KD}:a1f P (.mp (.mk kd) xs) n0 vs ob K L=a2j (.mk kd) n0 vs ob K L:=propext vP
theorem f0x {kd:KD} {ok:Bool} {z:V}:a1f P (.mp (.lku kd ok z) xs) n0 vs ob K L=a2j (.lku kd ok z) n0 vs ob K L:=propext vP
theorem g27 {kd:KD}:a1f P (.mp (.up kd) xs) n0 vs ob K L=a2j (.up kd) n0 vs ob K L:=propext vP
theorem f0o {kd:KD}:a1f P (.mp (.ups kd) xs) n0 vs ob K L=a2j (.ups kd) n0 vs ob K L:=propext vP
theorem f1e {ng:Bool}:a1f P (.mp (.fnz ng) xs) n0 vs ob K L=a2j (.fnz ng) n0 vs ob K L:=propext vP
theorem f0z {ng:Bool}:a1f P (.mp (.ifz ng) xs) n0 vs ob K L=a2j (.ifz ng) n0 vs ob K L:=propext vP
theorem f1o {k b:Nat}:a1f P (.mp (.apc k b) xs) n0 vs ob K L=a2j (.apc k b) n0 vs ob K L:=propext vP
theorem f0p {i:Nat}:a1f P (.mp (.tab i) xs) n0 vs ob K L=a2j (.tab i) n0 vs ob K L:=propext vP
theorem g0i:a2j (.tab 1) n0 [] ob K L=K (evl (.agg [.int .i64 1,.int .i64 100,.int .i64 1000,.int .i64 10000])):=propext vP
theorem g0h:a2j (.tab 2) n0 [] ob K L=K (evl (.agg [.int .i64 40,.int .i64 16,.int .i64 4,.int .i64 1])):=propext vP
theorem f1j {kd:KD}:a1f P (.mp (.del kd) xs) n0 vs ob K L=a2j (.del kd) n0 vs ob K L:=propext vP
theorem d9x:a1f P (.mp .len xs) n0 vs ob K L=a2j .len n0 vs ob K L:=propext vP
theorem f0s:a1f P (.mp .rng xs) n0 vs ob K L=a2j .rng n0 vs ob K L:=propext vP
theorem f1i:a1f P (.mp .ent xs) n0 vs ob K L=a2j .ent n0 vs ob K L:=propext vP
end
theorem d2x {n:Nat} {kd:KD} {es:List (V×V)}:(V.smap kd es).has n=false:=by simp only [V.has]
theorem c5j {kd:KD} {es:List (V×V)}:(V.smap kd es).cells=[.smap kd es]:=rfl
theorem c7z {k z:V} {ok:Bool}:a5p ok z none=bif ok then .tup [z,.bool false] else z:=rfl
theorem c7y {k z v:V} {ok:Bool}:a5p ok z (some v)=bif ok then .tup [v,.bool true] else v:=rfl
theorem d27 {k:V}:c38 k []=none:=rfl
theorem a15.opsDG_any {M:a15} {c:Cfg} {anc:List (List Nat)} {e0 e:List (Nat×V)} {h0 h:Heap} {i:a0a} {d:Option Nat} {n:Nat} {w b:Bool} {r:List MOp} {log:List Ent} {s:List Fr}:M.opsDG c anc e0 h0 i d n w r log s e h (.bool b) =
  ((b=w→M.insG c anc e0 h0 i d [n] r log s (put n (.bool w) e) h)∧(b=(!w)→M.opsD c anc e0 h0 r (⟨d,none,[n],[],[]⟩::log) s ⟨a7c d (put n (.bool (!w)) e),h⟩)):=by
 rw [M.opsDG_bool];rfl
attribute [go_sem high] g0i g0h
attribute [go_sem] g2g f0o d6i f1e e2n f0z f1o f0p g2b f0x g27 f1j d9x f0s f1i a2j b1n evl eup KD.is d2x c5j c7z c7y d27 V.shm V.shmL c6u c65 a0i.shm
attribute [go_sem] a15.go_regI a15.kN_it_nil a15.kN_it_op a15.kN_it_nt a15.kX_it a15.go_seq a15.go_block a15.go_skip a15.go_ret a15.go_exit a15.go_reg a15.go_regD
attribute [go_sem low] a15.goC_any a15.opsG_any a15.opsDG_any
attribute [go_sem high] a15.goC_t a15.goC_f a15.goC_ct a15.goC_cf a15.opsG_lit_tt a15.opsG_lit_ff a15.opsG_lit_tf a15.opsG_lit_ft a15.opsDG_tt a15.opsDG_ff a15.opsDG_tf a15.opsDG_ft a15.opsG_tup a15.opsDG_tup
attribute [go_sem] a15.kN_it_grp f2f f0w g1q f2q e0r f1p e02 e2i h07 a2o
attribute [go_sem] a15.go_cond a15.kN_nil a15.kN_sq a15.kN_bl a15.kX_nil a15.kX_sq a15.kX_bl' a15.ops_nil a15.ops_guard a15.ops_ins a15.opsD_nil a15.opsD_ins
attribute [go_sem] a15.opsD_guard a15.insG_eq c4a g29 d9w d3x f1k d3w c9i g2c g28 f0v
attribute [go_sem] f1l e00 f1m f1h f0t f0u f1d d9z d9y
attribute [go_sem] f0q f0r f1f f1c f1b f1g f0y f1n g2a a15.aftD_eq a15.aftD_comp
attribute [go_sem] a15.aftD_up slotsOf a0a.touch vid a15.aft_eq a15.aft_some
attribute [go_sem] a15.aft_none a15.aft_up a15.aft_upn
attribute [go_sem] g2f e0m g2i g2e f2e f2n e0p f2o f2l f2c f2d f2i
attribute [go_sem] e0o f2a f2b f2j f2h f2g f2k at_len g2h
attribute [go_sem] d4g f2m d05 e0n f2p e0q d4f d3d d9o c90
attribute [go_sem] d3k d1r d7h d3u d9v d7s d9f d9g d2y d2z d37 d9l d9d
attribute [go_sem] e9g d38 d9h d9e e9f d30 d31 d32 d34 d33 d9k d35
attribute [go_sem] d39 c8p c5i c1y d7z c81 a7u a1h a0i.has a0a.creates a0a.opds a5a
attribute [go_sem] List.map List.append List.reverse List.reverseAux Opd.ev Option.getD Option.isSome Option.isNone c4f puts c9f a7c
attribute [go_sem] vO vM Bool.and_true Bool.true_and Bool.and_false Bool.false_and Bool.or_false w5 w4 wV d51 c0q
attribute [go_sem] sLd sSt e2d c0s e2h d73 e2a e2c e2f h04 h06 d6o
attribute [go_sem] d4z e2g h05 d19 g26 wU e2e d71 sLen sMm d75 g9z
attribute [go_sem] c0r c2r a7i e3x kEq c67 part c5t c9u c9r
attribute [go_sem] c5m c5n c5o c5q c5p c9v d42 c9s c5r c9t c5k c5l c5s
attribute [go_sem] d43 c1z c5e c1r d47 d96 tyJ
attribute [go_sem] sel V.within V.withinL b1c a0i.within vA vD xU b0a b7u b0b b7v
attribute [go_sem] and_true true_and a0t wJ wC wQ h0q setCells wA wM List.take_succ_cons
attribute [go_sem] List.take_zero xC List.all_cons List.all_nil V.one decide_true decide_false wN vJ V.nany V.nav a4j V.sealed
attribute [go_sem] V.isB V.sc a15.go_note a0y d0j d0h c7g V.ren V.renL a0i.ren a7t V.sealOK b8j
attribute [go_sem] V.shut b79 a7s a0i.sealOK a0i.shut xY List.map_append wZ vF xH V.sealL V.sealOKs
attribute [go_sem] ints tape V.unnil V.unnilL
attribute [go_sem] b0h List.zip List.zipWith List.set_cons_succ List.set_cons_zero h0p h03 uvT tyF
attribute [go_sem] d0x d3s List.forall_mem_map implies_true Int.toNat_zero
attribute [go_sem ↓] a15.iad_map a15.iad_mapD a15.ex_part a15.ex_partD a15.b2s_sl a15.b2s_slD a15.b2s_osl a15.b2s_oslD
def swN (a b n:Nat):Nat:=bif Nat.beq n a then b else bif Nat.beq n b then a else n
theorem a0r (a b n:Nat):swN a b (swN a b n)=n:=by
 unfold swN
 by_cases h1:n=a
 ·subst h1
  by_cases h2:n=b
  ·subst h2;simp
  ·have:Nat.beq b n=false:=by
    cases h:Nat.beq b n
    ·rfl
    ·exact absurd (zR h).symm h2
   simp [this]
 ·have e1:Nat.beq n a=false:=by
   cases h:Nat.beq n a
   ·rfl
   ·exact absurd (zR h) h1
  by_cases h2:n=b
  ·subst h2;simp [e1]
  ·have e2:Nat.beq n b=false:=by
    cases h:Nat.beq n b
    ·rfl
    ·exact absurd (zR h) h2
   simp [e1,e2]
theorem c6n {a b m n:Nat} (h:swN a b m=swN a b n):m=n:=by
 have:=congrArg (swN a b) h
 rwa [a0r,a0r] at this
mutual
def V.sw (a b:Nat):V→V
 | .ptr id off=>.ptr (swN a b id) off
 | .osl id k lo n=>.osl (swN a b id) k lo n
 | .optr id k i off=>.optr (swN a b id) k i off
 | .omap id=>.omap (swN a b id)
 | .bptr id=>.bptr (swN a b id)
 | .nsl z k xs=>.nsl (swN a b z) k xs
 | .nsmap z k kd es=>.nsmap (swN a b z) k kd es
 | .at_ id x=>.at_ (swN a b id) x
 | .agg cs=>.agg (V.swL a b cs)
 | .tup cs=>.tup (V.swL a b cs)
 | .fn f cs=>.fn f (V.swL a b cs)
 | x=>x
def V.swL (a b:Nat):List V→List V
 | []=>[]
 | x::r=>x.sw a b::V.swL a b r
end
theorem a5t (a b:Nat):∀cs:List V,V.swL a b cs=cs.map (V.sw a b)
 | []=>rfl
 | x::r=>by simp [V.swL,a5t a b r]
mutual
theorem V.sw_sw (a b:Nat):∀x:V,(x.sw a b).sw a b=x
 | .ptr _ _=>by simp [V.sw,a0r]
 | .osl _ _ _ _=>by simp [V.sw,a0r]
 | .optr _ _ _ _=>by simp [V.sw,a0r]
 | .omap _=>by simp [V.sw,a0r]
 | .bptr _=>by simp [V.sw,a0r]
 | .nsl _ _ _=>by simp [V.sw,a0r]
 | .nsmap _ _ _ _=>by simp [V.sw,a0r]
 | .at_ _ _=>by simp [V.sw,a0r]
 | .agg cs=>by simp [V.sw,V.swL_swL a b cs]
 | .tup cs=>by simp [V.sw,V.swL_swL a b cs]
 | .fn _ cs=>by simp [V.sw,V.swL_swL a b cs]
 | .bool _|.int _ _|.str _|.nils|.nilp|.nilm|.nilf|.nili|.ifc _|.sl _|.smap _ _|.eptr _ _|.adr _ _|.any=>by simp [V.sw]
theorem V.swL_swL (a b:Nat):∀cs:List V,V.swL a b (V.swL a b cs)=cs
 | []=>rfl
 | x::r=>by simp [V.swL,V.sw_sw a b x,V.swL_swL a b r]
end
def a0i.sw (a b:Nat):a0i→a0i
 | .cells cs t=>.cells (V.swL a b cs) t
 | .nmap z k kd es=>.nmap (swN a b z) k kd es
 | o=>o
def swH (a b:Nat):Heap→Heap
 | []=>[]
 | (n,o)::r=>(swN a b n,o.sw a b)::swH a b r
theorem a0i.sw_sw (a b:Nat) (o:a0i):(o.sw a b).sw a b=o:=by
 cases o with
 | cells cs t=>simp [a0i.sw,V.swL_swL]
 | arr k xs t=>rfl
 | map kd es=>rfl
 | iter rem cur=>rfl
 | mark=>rfl
 | nmap z k kd es=>simp [a0i.sw,a0r]
theorem b73 (a b:Nat):∀H:Heap,swH a b (swH a b H)=H
 | []=>rfl
 | (n,o)::r=>by simp [swH,a0r,a0i.sw_sw,b73 a b r]
theorem b3l (a b n:Nat):∀H:Heap,find (swN a b n) (swH a b H)=(find n H).map (a0i.sw a b)
 | []=>rfl
 | (m,o)::r=>by
  simp only [swH,find]
  have ih:=b3l a b n r
  cases h:Nat.beq n m with
  | true =>
   have e:=zR h;subst e
   simp
  | false =>
   have:Nat.beq (swN a b n) (swN a b m)=false:=by
    cases h':Nat.beq (swN a b n) (swN a b m) with
    | false=>rfl
    | true =>
     have e:=c6n (zR h');subst e
     simp at h
   simp only [this,vM];exact ih
theorem a6j {a b n:Nat} {H:Heap} {o:a0i} (h:find n (swH a b H)=some o):∃o',find (swN a b n) H=some o'∧o=o'.sw a b:=by
 have:=b3l a b (swN a b n) H
 rw [a0r,h] at this
 cases hf:find (swN a b n) H with
 | none=>rw [hf] at this;cases this
 | some o'=>rw [hf] at this;simp at this;exact ⟨o',rfl,this⟩
def Gh.sw (g:Gh) (a b:Nat):Gh:=⟨g.S,fun i=>g.ρ (swN a b i),fun i=>g.base (swN a b i),fun i=>g.cap (swN a b i),fun i=>g.nil (swN a b i)⟩
theorem Gh.sw_sw (g:Gh) (a b:Nat):(g.sw a b).sw a b=g:=by
 unfold Gh.sw
 simp only [a0r]
variable {P:Program} {g:Gh} {w:World} {a b:Nat}
theorem Rd.sw_same {S:Nat→Prop} {v:Value} {x:V} (h:Rd S w v x):x.sw a b=x:=by
 induction h with
 | agg vs cs hl hr ih =>
  simp only [V.sw,a5t,V.agg.injEq]
  refine xS fun i=>?_
  rw [xQ]
  cases hc:cs[i]? with
  | none=>rfl
  | some c=>simp [ih i c hc]
 | _=>rfl
theorem VR.sw {v:Value} {x:V} (h:VR g w v x):VR (g.sw a b) w v (x.sw a b):=by
 induction h with
 | rd h=>rw [h.sw_same];exact .rd h
 | any v=>exact .any v
 | ptr id off =>
  have:=VR.ptr (g:=g.sw a b) (w:=w) (swN a b id) off
  simp only [Gh.sw,a0r] at this
  exact this
 | eptr bl o off cur e fz x hS hg hb hr=>exact .eptr bl o off cur e fz x hS hg hb hr
 | oslnil id k lo h=>exact .oslnil _ k lo (by simp only [Gh.sw,a0r];exact h)
 | osl id k lo len o c h ho hc hl hm =>
  have:=VR.osl (g:=g.sw a b) (w:=w) (swN a b id) k lo len o c (by simp only [Gh.sw,a0r];exact h) (by simp only [Gh.sw,a0r];exact ho) (by simp only [Gh.sw,a0r];exact hc) hl hm
  simp only [Gh.sw,a0r] at this
  exact this
 | optr id k i off =>
  have:=VR.optr (g:=g.sw a b) (w:=w) (swN a b id) k i off
  simp only [Gh.sw,a0r] at this
  exact this
 | omap id =>
  have:=VR.omap (g:=g.sw a b) (w:=w) (swN a b id)
  simp only [Gh.sw,a0r] at this
  exact this
 | bnil id=>exact .bnil _
 | bself id =>
  have:=VR.bself (g:=g.sw a b) (w:=w) (swN a b id)
  simp only [Gh.sw,a0r] at this
  exact this
 | at_ id q v h=>exact VR.at_ (g:=g.sw a b) (w:=w) (swN a b id) q v (by simp only [Gh.sw,a0r];exact h)
 | nsl z k xs v h =>
  have:=VR.nsl (g:=g.sw a b) (w:=w) (swN a b z) k xs v (by simp only [Gh.sw,a0r];exact h)
  exact this
 | nsmap bl z k kd ents clock es hr hS hg hn =>
  exact VR.nsmap (g:=g.sw a b) (w:=w) bl (swN a b z) k kd ents clock es hr hS hg (by simp only [Gh.sw,a0r];exact hn)
 | agg vs cs hl hr ih =>
  simp only [V.sw,a5t]
  refine .agg vs _ (by simpa using hl) fun i c hc=>?_
  rw [xQ] at hc
  cases hx:cs[i]? with
  | none=>rw [hx] at hc;cases hc
  | some y=>rw [hx] at hc;cases hc;exact ih i y hx
 | tup vs cs hl hr ih =>
  simp only [V.sw,a5t]
  refine .tup vs _ (by simpa using hl) fun i c hc=>?_
  rw [xQ] at hc
  cases hx:cs[i]? with
  | none=>rw [hx] at hc;cases hc
  | some y=>rw [hx] at hc;cases hc;exact ih i y hx
 | fn f vs cs hl hr ih =>
  simp only [V.sw,a5t]
  refine .fn f vs _ (by simpa using hl) fun i c hc=>?_
  rw [xQ] at hc
  cases hx:cs[i]? with
  | none=>rw [hx] at hc;cases hc
  | some y=>rw [hx] at hc;cases hc;exact ih i y hx
 | bnd f vs cs hl hr ih =>
  simp only [V.sw,a5t]
  refine .bnd f vs _ (by simpa using hl) fun i c hc=>?_
  rw [xQ] at hc
  cases hx:cs[i]? with
  | none=>rw [hx] at hc;cases hc
  | some y=>rw [hx] at hc;cases hc;exact ih i y hx
theorem OR.sw {id:Nat} {o:a0i} (h:OR g w id o):OR (g.sw a b) w (swN a b id) (o.sw a b):=by
 cases o with
 | cells cs t =>
  obtain ⟨hn,cur,e,fz,h1,h2,h3,h4⟩:=h
  refine ⟨by simp only [Gh.sw,a0r];exact hn,cur,e,fz,by simp only [Gh.sw,a0r];exact h1,by rw [a5t];simpa using h2,h3,fun i c hc=>?_⟩
  rw [a5t,xQ] at hc
  cases hx:cs[i]? with
  | none=>rw [hx] at hc;cases hc
  | some y=>rw [hx] at hc;cases hc;exact (h4 i y hx).sw
 | arr k xs t =>
  simp only [OR,Gh.sw,a0i.sw,a0r];exact h
 | map kd es =>
  simp only [OR,Gh.sw,a0i.sw,a0r];exact h
 | iter rem cur =>
  simp only [OR,Gh.sw,a0i.sw,a0r];exact h
 | mark =>
  simp only [OR,Gh.sw,a0i.sw,a0r];exact h
 | nmap z k kd es =>
  simp only [OR,Gh.sw,a0i.sw,a0r];exact h
theorem a3p.sw {H:Heap} (h:a3p P g w H):a3p P (g.sw a b) w (swH a b H):=by
 refine ⟨fun id o ho=>?_,fun i j o o' hi hj hni hnj he=>?_,fun id o ho hn=>?_,h.lt,h.tabs⟩
 ·obtain ⟨o',h1,rfl⟩:=a6j ho
  have:=(h.obj _ _ h1).sw (a:=a) (b:=b)
  rwa [a0r] at this
 ·obtain ⟨o1,h1,_⟩:=a6j hi
  obtain ⟨o2,h2,_⟩:=a6j hj
  exact c6n (h.inj _ _ _ _ h1 h2 hni hnj he)
 ·obtain ⟨o1,h1,_⟩:=a6j ho
  exact h.sep _ _ h1 hn
theorem Gh.agree.sw {g g':Gh} {id:Nat} (h:g.agree g' (swN a b id)):(g.sw a b).agree (g'.sw a b) id:=h
theorem Frm.sw {w0:World} {g0:Gh} {H0 H:Heap} (h:Frm ⟨w0,g0,H0,0,[],[],H0,g0,w0⟩ g w H):Frm ⟨w0,g0.sw a b,swH a b H0,0,[],[],swH a b H0,g0.sw a b,w0⟩ (g.sw a b) w (swH a b H):=by
 have hM:∀bl,Ctx.M ⟨w0,g0,H0,0,[],[],H0,g0,w0⟩ bl→Ctx.M ⟨w0,g0.sw a b,swH a b H0,0,[],[],swH a b H0,g0.sw a b,w0⟩ bl:=by
  rintro bl ⟨id,o,h1,h2,h3⟩
  refine ⟨swN a b id,o.sw a b,?_,?_,?_⟩
  ·show find _ (swH a b H0)=_;rw [b3l,h1];rfl
  ·simp only [Gh.sw,a0r];exact h2
  ·simp only [Gh.sw,a0r];exact h3
 refine ⟨h.os,h.tape,h.output,h.size,fun bl hb hn=>h.old bl hb fun hm=>hn (hM bl hm),fun id o ho hn=>?_,h.sup,fun bl hb=>?_,fun id o ho=>?_⟩
 ·obtain ⟨o1,h1,_⟩:=a6j ho
  rcases (h.own _ _ h1 hn).1 with h2|h2
  ·exact ⟨.inl h2,fun _ h=>by cases h⟩
  ·exact ⟨.inr (hM _ h2),fun _ h=>by cases h⟩
 ·rcases (h.sub bl hb).1 with h1|h1|h1
  ·exact ⟨.inl h1,fun _ h=>by cases h⟩
  ·exact ⟨.inr (.inl h1),fun _ h=>by cases h⟩
  ·exact ⟨.inr (.inr (hM bl h1)),fun _ h=>by cases h⟩
 ·obtain ⟨o1,h1,_⟩:=a6j ho
  exact (h.par _ _ h1).sw
theorem d4n {f:Nat} {args:List V} {H:Heap} {Q:V→Heap→Prop} (a b:Nat) (h:a0s P f args H Q):a0s P f (V.swL a b args) (swH a b H) (fun r H'=>Q (r.sw a b) (swH a b H')):=by
 refine ⟨h.1,fun g w vals hH hl hv=>?_⟩
 have h1:=hH.sw (a:=a) (b:=b)
 rw [b73] at h1
 refine (h.2 (g.sw a b) w vals h1 (by rw [hl,a5t];simp) fun i x hx=>?_).mono ?_
 ·have:=(hv i (x.sw a b) (by rw [a5t,xQ,hx];rfl)).sw (a:=a) (b:=b)
  rwa [V.sw_sw] at this
 ·rintro en w' ⟨v,r,H',g',rfl,hq,hH',hv',hf,ha⟩
  refine ⟨v,r.sw a b,swH a b H',g'.sw a b,rfl,by simp only [V.sw_sw,b73];exact hq,hH'.sw,hv'.sw,?_,fun id hid=>?_⟩
  ·have:=hf.sw (a:=a) (b:=b)
   rwa [Gh.sw_sw] at this
  ·have h2:find (swN a b id) H'=none:=by
    have:=b3l a b (swN a b id) H'
    rw [a0r,hid] at this
    cases hf:find (swN a b id) H' with
    | none=>rfl
    | some o=>rw [hf] at this;cases this
   have:=(ha _ h2).sw (a:=a) (b:=b) (id:=id)
   rwa [Gh.sw_sw] at this
theorem a03 {f:Nat} {args:List V} {H:Heap} {r0:V} {H1:Heap} (a b:Nat) (h:a0s P f args H (fun r H'=>r=r0∧H'=H1)):a0s P f (V.swL a b args) (swH a b H) (fun r H'=>r=r0.sw a b∧H'=swH a b H1):=by
 refine (d4n a b h).mono fun r H' ⟨h1,h2⟩=>?_
 exact ⟨by rw [←h1,V.sw_sw],by rw [←h2,b73]⟩
end Go.Ab
namespace Go.Ab
open Go.RowKit
noncomputable section
abbrev Str:=List UInt8
def Ok {α:Type} (o:Option α) (Q:α→Prop):Prop:=∃y,o=some y∧Q y
theorem b1z {α:Type} {x:α} {Q:α→Prop}:Ok (some x) Q=Q x:=propext ⟨fun ⟨_,e,h⟩=>by cases e;exact h,fun h=>⟨x,rfl,h⟩⟩
theorem b5d {α:Type} {Q:α→Prop}:Ok none Q=False:=by simp [Ok]
theorem a9i {α β:Type} {o:Option α} {f:α→Option β} {Q:β→Prop}:Ok (o.bind f) Q=∃y,o=some y∧Ok (f y) Q:=propext
 ⟨fun ⟨z,e,h⟩=>by
  cases o with
  | none=>cases e
  | some y=>exact ⟨y,rfl,z,e,h⟩,fun ⟨y,e,z,e',h⟩=>⟨z,by rw [e];exact e',h⟩⟩
theorem d5o {α:Type} {b:Bool} {x y:Option α} {Q:α→Prop}:Ok (bif b then x else y) Q=((b=true→Ok x Q)∧(b=false→Ok y Q)):=by
 cases b<;>simp
def chk {α:Type} (b:Bool) (o:Option α):Option α:=bif b then o else none
theorem d5p {α:Type} {b:Bool} {o:Option α} {Q:α→Prop}:Ok (chk b o) Q=(b=true∧Ok o Q):=by
 cases b<;>simp [chk,b5d]
theorem p8 {α:Type} {b:Bool} {o:Option α} (h:b=true):chk b o=o:=by rw [h];rfl
def jn {α β:Type} (o:Option α) (f:α→Option β):Option β:=o.bind f
theorem d95 {α β:Type} {o:Option α} {f:α→Option β}:jn o f=o.bind f:=rfl
def grp {α β:Type} (x:α) (f:α→Option β):Option β:=f x
theorem e9j {α β:Type} {x:α} {f:α→Option β}:grp x f=f x:=rfl
def a0w (n:Int):Bool:=decide (-9223372036854775808≤n)&&decide (n≤9223372036854775807)
theorem a3d {n:Int}:a0w n=true↔-9223372036854775808≤n∧n≤9223372036854775807:=by simp [a0w]
theorem e5b {n:Int}:rng .i64 n=(a0w n=true):=propext (by simp [rng,a0w])
def inb (i:Int) (n:Nat):Bool:=decide (0≤i)&&decide (i<n)
theorem u6 {i:Int} {n:Nat}:inb i n=true↔0≤i∧i<n:=by simp [inb]
theorem a2k {i:Int} {n:Nat} (h:inb i n=true):i.toNat<n:=by have:=u6.1 h;omega
def inc (a b:Int) (n:Nat):Bool:=decide (0≤a)&&(decide (a≤b)&&decide (b≤n))
theorem a5v {a b:Int} {n:Nat}:inc a b n=true↔0≤a∧a≤b∧b≤n:=by simp [inc]
def room (n bytes:Nat):Bool:=decide (n*bytes≤140737488355328)
theorem a6t {n b:Nat}:room n b=true↔n*b≤140737488355328:=by simp [room]
def b2y (n m:Int) (b:Nat):Bool:=decide (0≤n)&&(decide (n≤m)&&decide (m*b≤140737488355328))
theorem a3v {n m:Int} {b:Nat}:b2y n m b=true↔0≤n∧n≤m∧m*b≤140737488355328:=by simp [b2y]
def at' {α:Type} [Inhabited α] (xs:List α) (i:Int):α:=xs.getD i.toNat default
inductive Fl (σ ρ:Type) where
 | nx (s:σ)
 | ex (r:ρ)
def Fl.elim {σ ρ γ:Type} (f:σ→γ) (g:ρ→γ):Fl σ ρ→γ
 | .nx s=>f s
 | .ex r=>g r
theorem a6o {σ ρ γ:Type} {f:σ→γ} {g:ρ→γ} {s:σ}:Fl.elim f g (.nx s)=f s:=rfl
theorem a6p {σ ρ γ:Type} {f:σ→γ} {g:ρ→γ} {r:ρ}:Fl.elim f g (.ex r)=g r:=rfl
def forL {α σ ρ:Type} (body:Int→α→σ→Option (Fl σ ρ)):List α→Int→σ→Option (Fl σ ρ)
 | [],_,s=>some (.nx s)
 | x::r,i,s=>(body i x s).bind fun o=>o.elim (fun s'=>forL body r (i+1) s') fun e=>some (.ex e)
def foldL {α σ:Type} (body:Int→α→σ→Option σ):List α→Int→σ→Option σ
 | [],_,s=>some s
 | x::r,i,s=>(body i x s).bind fun s'=>foldL body r (i+1) s'
def iter {σ ρ:Type} (step:σ→Option (Fl σ ρ)):Nat→σ→Option ρ
 | 0,_=>none
 | n+1,s=>(step s).bind fun o=>o.elim (iter step n) some
theorem b4k {σ ρ:Type} {step:σ→Option (Fl σ ρ)}:∀{n m:Nat} {s:σ} {r:ρ},n≤m→iter step n s=some r→iter step m s=some r
 | 0,_,_,_,_,h=>by cases h
 | n+1,0,_,_,hle,_=>by omega
 | n+1,m+1,s,r,hle,h=>by
  simp only [iter] at h ⊢
  cases hs:step s with
  | none=>rw [hs] at h;cases h
  | some o =>
   rw [hs] at h
   cases o with
   | nx s'=>exact b4k (n:=n) (m:=m) (by omega) h
   | ex r'=>exact h
open Classical in
def loop {σ ρ:Type} (step:σ→Option (Fl σ ρ)) (s:σ):Option ρ:=if h:∃n r,iter step n s=some r then iter step h.choose s else none
theorem a6g {σ ρ:Type} {step:σ→Option (Fl σ ρ)} {s:σ} {r:ρ}:loop step s=some r↔∃n,iter step n s=some r:=by
 unfold loop
 constructor
 ·intro h
  split at h
  ·exact ⟨_,h⟩
  ·cases h
 ·rintro ⟨n,h⟩
  have hx:∃n r,iter step n s=some r:=⟨n,r,h⟩
  rw [dif_pos hx]
  obtain ⟨r',h'⟩:=hx.choose_spec
  have a:=b4k (Nat.le_max_left hx.choose n) h'
  have b:=b4k (Nat.le_max_right hx.choose n) h
  rw [a] at b;rw [h',b]
theorem b49 {σ ρ:Type} {step:σ→Option (Fl σ ρ)} {s:σ}:loop step s=(step s).bind fun o=>o.elim (loop step) some:=by
 apply Option.ext
 intro r
 rw [a6g]
 constructor
 ·rintro ⟨n,h⟩
  cases n with
  | zero=>cases h
  | succ n =>
   simp only [iter] at h
   cases hs:step s with
   | none=>rw [hs] at h;cases h
   | some o =>
    rw [hs] at h
    cases o with
    | nx s'=>exact a6g.2 ⟨n,h⟩
    | ex r'=>exact h
 ·intro h
  cases hs:step s with
  | none=>rw [hs] at h;cases h
  | some o =>
   rw [hs] at h
   cases o with
   | nx s' =>
    obtain ⟨n,hn⟩:=a6g.1 h
    exact ⟨n+1,by simp only [iter,hs];exact hn⟩
   | ex r'=>exact ⟨1,by simp only [iter,hs];exact h⟩
open Classical in
def b7j {α γ:Type} (f:List α→Option γ) (es:List α):Option γ:=if h:∃r,∀l,l.Perm es→f l=some r then some h.choose else none
theorem a9z {α γ:Type} {f:List α→Option γ} {es:List α} {r:γ} (h:∀l,l.Perm es→f l=some r):b7j f es=some r:=by
 have hx:∃r,∀l,l.Perm es→f l=some r:=⟨r,h⟩
 unfold b7j
 rw [dif_pos hx]
 have:=hx.choose_spec es (List.Perm.refl _)
 rw [h es (List.Perm.refl _)] at this;exact this.symm
theorem c7q {α γ:Type} {f:List α→Option γ} {es:List α} {r:γ} (h:b7j f es=some r):∀l,l.Perm es→f l=some r:=by
 unfold b7j at h
 split at h
 ·rename_i hx;cases h;exact hx.choose_spec
 ·cases h
section
variable {M:a15} {c:Cfg} {e:List (Nat×V)} {h:Heap} {s:List Fr}
theorem a15.go_jn {α β:Type} {a b:MC} {A:Option α} {B:α→Option β} {Q:β→Prop} (I:α→St) (ns:List a4x) (hF:Ok (jn A B) Q)
  (h1:∀(Qn:α→Prop) (K:St→Prop),(∀σ',(a0q c.H0 ns σ' fun σ'=>∃y,Qn y∧a0u (I y) σ')→K σ')→Ok A Qn→M.go ⟨c.P,c.H0,K,M.kX c s,c.R⟩ a [] ⟨e,h⟩)
  (h2:∀y,Ok (B y) Q→factsSt (I y)→M.go c b s (I y)):M.go c (.cut a b) s ⟨e,h⟩:=by
 rw [d95,a9i] at hF
 obtain ⟨y0,e0,h0⟩:=hF
 exact M.go_cut I (fun y=>Ok (B y) Q) ns (h1 _ _ (fun σ' h=>Lk.mk h) ⟨y0,e0,h0⟩) h2
theorem a15.go_gr {α:Type} {ms:List MOp} {its:List It} {A:Option α} {β:Type} {B:α→Option β} {Q:β→Prop} (I:α→St) (hF:Ok (jn A B) Q)
  (h1:∀(Qn:α→Prop) (K:St→Prop),(∀σ',(∃y,Qn y∧a0u (I y) σ')→K σ')→Ok A Qn→M.ops ⟨c.P,c.H0,K,fun _ _=>False,fun _=>False⟩ ms [] ⟨e,h⟩)
  (h2:∀y,Ok (B y) Q→factsSt (I y)→M.kN c (.it its::s) (I y)):M.grpC c ms its s ⟨e,h⟩:=by
 rw [d95,a9i] at hF
 obtain ⟨y0,e0,h0⟩:=hF
 exact M.go_grp I (fun y=>Ok (B y) Q) (h1 _ _ (fun σ' h=>Lk.mk h) ⟨y0,e0,h0⟩) h2
theorem a15.go_gv {α:Type} {ms:List MOp} {its:List It} {x:α} {β:Type} {B:α→Option β} {Q:β→Prop} (I:α→St) (hF:Ok (grp x B) Q)
  (h1:∀(K:St→Prop),(∀σ',a0u (I x) σ'→K σ')→M.ops ⟨c.P,c.H0,K,fun _ _=>False,fun _=>False⟩ ms [] ⟨e,h⟩)
  (h2:Ok (B x) Q→M.kN c (.it its::s) (I x)):M.grpC c ms its s ⟨e,h⟩:=by
 rw [e9j] at hF
 exact M.go_grp (fun _:Unit=>I x) (fun _=>True) (h1 _ fun σ' h=>Lk.mk ⟨(),trivial,h⟩) fun _ _ hf=>h2 hF
theorem a15.go_while {σ ρ:Type} {b:MC} {step:σ→Option (Fl σ ρ)} {s0:σ} {Q:ρ→Prop} (I:σ→St) (ns:List a4x) (hF:Ok (loop step s0) Q)
  (h0:a0q c.H0 ns ⟨e,h⟩ fun σ'=>a0u (I s0) σ')
  (round:∀(x:σ) (Qn:σ→Prop) (K:St→Prop),(∀σ',(a0q c.H0 ns σ' fun σ'=>∃y,Qn y∧a0u (I y) σ')→K σ')→Ok (step x) (Fl.elim Qn Q)→factsSt (I x)→M.go ⟨c.P,c.H0,K,M.kX c s,c.R⟩ b [] (I x)):M.go c (.loop b) s ⟨e,h⟩:=by
 obtain ⟨r,hr,hQ⟩:=hF
 obtain ⟨n,hn⟩:=a6g.1 hr
 refine M.go_loop (fun x:Nat×σ=>I x.2) (fun x=>Ok (iter step x.1 x.2) Q) (fun x=>x.1) ns (a1r (fun σ' h=>⟨(n,s0),⟨r,hn,hQ⟩,h⟩) h0) fun x hx hf=>?_
 obtain ⟨m,x⟩:=x
 obtain ⟨r',hr',hQ'⟩:=hx
 cases m with
 | zero=>cases hr'
 | succ m =>
  refine round x (fun y=>Ok (iter step m y) Q) _ (fun σ' h=>Lk.mk (a1r (fun σ'' ⟨y,h1,h2⟩=>⟨(m,y),h1,Nat.lt_succ_self m,h2⟩) h)) ?_ hf
  simp only [iter] at hr'
  cases hs:step x with
  | none=>rw [hs] at hr';cases hr'
  | some o =>
   rw [hs] at hr'
   refine ⟨o,rfl,?_⟩
   cases o with
   | nx y=>exact ⟨r',hr',hQ'⟩
   | ex r2=>cases hr';exact hQ'
theorem b4x {α:Type} [Inhabited α] {xs:List α} {k:Nat} (h:k<xs.length):xs.drop k=xs.getD k default::xs.drop (k+1):=by
 rw [List.drop_eq_getElem_cons h];simp [h]
theorem a15.go_for {α σ ρ:Type} [Inhabited α] {b:MC} {body:Int→α→σ→Option (Fl σ ρ)} {xs:List α} {s0:σ} {Q:Fl σ ρ→Prop} (I:Nat→σ→St) (ns:List a4x) (hF:Ok (forL body xs 0 s0) Q)
  (h0:a0q c.H0 ns ⟨e,h⟩ fun σ'=>a0u (I 0 s0) σ')
  (round:∀(k:Nat) (a:α) (x:σ) (Qn:σ→Prop) (K:St→Prop),(∀σ',(a0q c.H0 ns σ' fun σ'=>∃y,Qn y∧a0u (I (k+1) y) σ')→K σ')→k<xs.length→xs.getD k default=a→Ok (body k a x) (Fl.elim Qn fun r=>Q (.ex r))→factsSt (I k x) →
   M.go ⟨c.P,c.H0,K,M.kX c s,c.R⟩ b [] (I k x))
  (stop:∀(k:Nat) (x:σ) (K:St→Prop),k=xs.length→Q (.nx x)→factsSt (I k x)→M.go ⟨c.P,c.H0,K,M.kX c s,c.R⟩ b [] (I k x)):M.go c (.loop b) s ⟨e,h⟩:=by
 refine M.go_loop (fun x:Nat×σ=>I x.1 x.2) (fun x=>x.1≤xs.length∧Ok (forL body (xs.drop x.1) x.1 x.2) Q) (fun x=>xs.length - x.1) ns (a1r (fun σ' h=>⟨(0,s0),⟨vH _,hF⟩,h⟩) h0) fun x hx hf=>?_
 obtain ⟨k,x⟩:=x
 obtain ⟨hk,hx⟩:=hx
 simp only at hk hx hf
 rcases Nat.lt_or_ge k xs.length with hlt|hge
 ·refine round k _ x (fun y=>Ok (forL body (xs.drop (k+1)) (k+1:Nat) y) Q) _ (fun σ' h=>Lk.mk (a1r (fun σ'' ⟨y,h1,h2⟩=>⟨(k+1,y),⟨hlt,h1⟩,by show xs.length - (k+1)<xs.length - k;omega,h2⟩) h)) hlt rfl ?_ hf
  rw [b4x hlt] at hx
  simp only [forL,a9i] at hx
  obtain ⟨o,ho,hx⟩:=hx
  refine ⟨o,ho,?_⟩
  cases o with
  | nx y=>exact hx
  | ex r=>simpa only [Fl.elim,b1z] using hx
 ·have e1:k=xs.length:=by omega
  subst e1
  rw [List.drop_length] at hx
  simp only [forL,b1z] at hx
  exact stop _ x _ rfl hx hf
theorem a15.go_fold {α σ:Type} [Inhabited α] {b:MC} {body:Int→α→σ→Option σ} {xs:List α} {s0:σ} {Q:σ→Prop} (I:Nat→σ→St) (ns:List a4x) (hF:Ok (foldL body xs 0 s0) Q)
  (h0:a0q c.H0 ns ⟨e,h⟩ fun σ'=>a0u (I 0 s0) σ')
  (round:∀(k:Nat) (a:α) (x:σ) (Qn:σ→Prop) (K:St→Prop),(∀σ',(a0q c.H0 ns σ' fun σ'=>∃y,Qn y∧a0u (I (k+1) y) σ')→K σ')→k<xs.length→xs.getD k default=a→Ok (body k a x) Qn→factsSt (I k x) →
   M.go ⟨c.P,c.H0,K,M.kX c s,c.R⟩ b [] (I k x))
  (stop:∀(k:Nat) (x:σ) (K:St→Prop),k=xs.length→Q x→factsSt (I k x)→M.go ⟨c.P,c.H0,K,M.kX c s,c.R⟩ b [] (I k x)):M.go c (.loop b) s ⟨e,h⟩:=by
 refine M.go_loop (fun x:Nat×σ=>I x.1 x.2) (fun x=>x.1≤xs.length∧Ok (foldL body (xs.drop x.1) x.1 x.2) Q) (fun x=>xs.length - x.1) ns (a1r (fun σ' h=>⟨(0,s0),⟨vH _,hF⟩,h⟩) h0) fun x hx hf=>?_
 obtain ⟨k,x⟩:=x
 obtain ⟨hk,hx⟩:=hx
 simp only at hk hx hf
 rcases Nat.lt_or_ge k xs.length with hlt|hge
 ·refine round k _ x (fun y=>Ok (foldL body (xs.drop (k+1)) (k+1:Nat) y) Q) _ (fun σ' h=>Lk.mk (a1r (fun σ'' ⟨y,h1,h2⟩=>⟨(k+1,y),⟨hlt,h1⟩,by show xs.length - (k+1)<xs.length - k;omega,h2⟩) h)) hlt rfl ?_ hf
  rw [b4x hlt] at hx
  simp only [foldL,a9i] at hx
  obtain ⟨o,ho,hx⟩:=hx
  exact ⟨o,ho,hx⟩
 ·have e1:k=xs.length:=by omega
  subst e1
  rw [List.drop_length] at hx
  simp only [foldL,b1z] at hx
  exact stop _ x _ rfl hx hf
end
def ovE:List (Nat×V)→List (Nat×V)→List (Nat×V)
 | [],e=>e
 | (n,x)::r,e=>ovE r (put n x e)
def d3m (keep:List Nat):Heap→Heap
 | []=>[]
 | (n,x)::r=>bif mem n keep then (n,x)::d3m keep r else d3m keep r
inductive Up where
 | o (id:Nat) (o:a0i)
 | p (id off:Nat) (cs:List V)
def g6v (off:Nat) (cs:List V):a0i→a0i
 | .cells ds t=>.cells (setCells ds off cs) t
 | o=>o
def ovU:List Up→Heap→Heap
 | [],h=>h
 | .o id o::r,h=>ovU r (put id o h)
 | .p id off cs::r,h=>ovU r (match find id h with|some o=>put id (g6v off cs o) h|none=>h)
def ovS (e:List (Nat×V)) (h:Heap) (ke kh:List Nat) (ue:List (Nat×V)) (uh:List Up):St:=⟨ovE ue (d0j ke e),ovU uh (d3m kh h)⟩
theorem a1m {n:Nat} {x:V}:∀{e:List (Nat×V)},c3t e→find n e=some x→x.fact
 | (m,y)::r,h,hf=>by
  simp only [find] at hf
  cases hb:Nat.beq n m with
  | true=>rw [hb] at hf;cases hf;exact h.1
  | false=>rw [hb] at hf;exact a1m h.2 hf
section
variable {M:a15} {c:Cfg} {e:List (Nat×V)} {h:Heap} {s:List Fr}
theorem a15.jn1 {α β:Type} {a b:MC} {A:Option α} {B:α→Option β} {Q:β→Prop} (ke kh:List Nat) (ue:α→List (Nat×V)) (uh:α→List Up) (ns:List a4x) (hF:Ok (jn A B) Q)
  (h1:∀(Qn:α→Prop) (K:St→Prop),(∀σ',(a0q c.H0 ns σ' fun σ'=>∃y,Qn y∧a0u (ovS e h ke kh (ue y) (uh y)) σ')→K σ')→Ok A Qn→M.go ⟨c.P,c.H0,K,M.kX c s,c.R⟩ a [] ⟨e,h⟩)
  (h2:∀y,Ok (B y) Q→M.go c b s (ovS e h ke kh (ue y) (uh y))):M.go c (.cut a b) s ⟨e,h⟩ :=
 M.go_jn (fun y=>ovS e h ke kh (ue y) (uh y)) ns hF h1 fun y hy _=>h2 y hy
theorem a15.jnE {α β ρ:Type} {a b:MC} {A:Option (Fl α ρ)} {B:α→Option β} {E:ρ→Option β} {Q:β→Prop} (ke kh:List Nat) (ue:α→List (Nat×V)) (uh:α→List Up) (ns:List a4x) (hF:Ok (jn A fun o=>o.elim B E) Q)
  (h1:∀(Qn:α→Prop) (K:St→Prop),(∀σ',(a0q c.H0 ns σ' fun σ'=>∃y,Qn y∧a0u (ovS e h ke kh (ue y) (uh y)) σ')→K σ')→Ok A (Fl.elim Qn fun r=>Ok (E r) Q)→M.go ⟨c.P,c.H0,K,M.kX c s,c.R⟩ a [] ⟨e,h⟩)
  (h2:∀y,Ok (B y) Q→M.go c b s (ovS e h ke kh (ue y) (uh y))):M.go c (.cut a b) s ⟨e,h⟩:=by
 rw [d95,a9i] at hF
 obtain ⟨y0,e0,h0⟩:=hF
 refine M.go_cut (fun y=>ovS e h ke kh (ue y) (uh y)) (fun y=>Ok (B y) Q) ns (h1 (fun y=>Ok (B y) Q) _ (fun σ' h=>Lk.mk h) ⟨y0,e0,?_⟩) fun y hy _=>h2 y hy
 cases y0 with
 | nx x=>exact h0
 | ex r=>exact h0
theorem a15.gj1 {α β:Type} {ms:List MOp} {its:List It} {A:Option α} {B:α→Option β} {Q:β→Prop} (ke kh:List Nat) (ue:α→List (Nat×V)) (uh:α→List Up) (hF:Ok (jn A B) Q)
  (h1:∀(Qn:α→Prop) (K:St→Prop),(∀σ',(∃y,Qn y∧a0u (ovS e h ke kh (ue y) (uh y)) σ')→K σ')→Ok A Qn→M.ops ⟨c.P,c.H0,K,fun _ _=>False,fun _=>False⟩ ms [] ⟨e,h⟩)
  (h2:∀y,Ok (B y) Q→M.kN c (.it its::s) (ovS e h ke kh (ue y) (uh y))):M.grpC c ms its s ⟨e,h⟩ :=
 M.go_gr (fun y=>ovS e h ke kh (ue y) (uh y)) hF h1 fun y hy _=>h2 y hy
def b9q (ds:List Nat):List (Nat×V)→List (Nat×V)
 | []=>[]
 | (n,x)::r=>bif mem n ds then b9q ds r else (n,x)::b9q ds r
theorem a15.gv1 {ms:List MOp} {its:List It} {x:Bool} {β:Type} {B:Bool→Option β} {Q:β→Prop} (d:Nat) (ds:List Nat) (hF:Ok (grp x B) Q)
  (h1:∀(K:St→Prop),(∀σ',a0u ⟨put d (.bool x) (b9q ds e),h⟩ σ'→K σ')→M.ops ⟨c.P,c.H0,K,fun _ _=>False,fun _=>False⟩ ms [] ⟨e,h⟩)
  (h2:∀b,Ok (B b) Q→M.kN c (.it its::s) ⟨put d (.bool b) (b9q ds e),h⟩):M.grpC c ms its s ⟨e,h⟩ :=
 M.go_gv (fun b=>⟨put d (.bool b) (b9q ds e),h⟩) hF h1 (h2 x)
theorem a15.wh1 {σ ρ:Type} {b:MC} {step:σ→Option (Fl σ ρ)} {s0:σ} {Q:ρ→Prop} (ke kh:List Nat) (ue:σ→List (Nat×V)) (uh:σ→List Up) (ns:List a4x) (hF:Ok (loop step s0) Q)
  (h0:a0q c.H0 ns ⟨e,h⟩ fun σ'=>a0u (ovS e h ke kh (ue s0) (uh s0)) σ')
  (round:∀(x:σ) (Qn:σ→Prop) (K:St→Prop),(∀σ',(a0q c.H0 ns σ' fun σ'=>∃y,Qn y∧a0u (ovS e h ke kh (ue y) (uh y)) σ')→K σ')→Ok (step x) (Fl.elim Qn Q)→M.go ⟨c.P,c.H0,K,M.kX c s,c.R⟩ b [] (ovS e h ke kh (ue x) (uh x))) :
  M.go c (.loop b) s ⟨e,h⟩ :=
 M.go_while (fun x=>ovS e h ke kh (ue x) (uh x)) ns hF h0 fun x Qn K h1 h2 _=>round x Qn K h1 h2
theorem a15.for1 {α σ ρ:Type} [Inhabited α] {b:MC} {body:Int→α→σ→Option (Fl σ ρ)} {xs:List α} {s0:σ} {Q:Fl σ ρ→Prop} (isl:Nat) (ke kh:List Nat) (ue:σ→List (Nat×V)) (uh:σ→List Up) (ns:List a4x) (hF:Ok (forL body xs 0 s0) Q)
  (h0:a0q c.H0 ns ⟨e,h⟩ fun σ'=>a0u (ovS e h ke kh ((isl,.int .i64 ((0:Nat):Int))::ue s0) (uh s0)) σ')
  (round:∀(k:Nat) (a:α) (x:σ) (Qn:σ→Prop) (K:St→Prop),(∀σ',(a0q c.H0 ns σ' fun σ'=>∃y,Qn y∧a0u (ovS e h ke kh ((isl,.int .i64 ((k+1:Nat):Int))::ue y) (uh y)) σ')→K σ')→k<xs.length→xs.getD k default=a →
   Ok (body k a x) (Fl.elim Qn fun r=>Q (.ex r))→factsSt (ovS e h ke kh ((isl,.int .i64 k)::ue x) (uh x))→M.go ⟨c.P,c.H0,K,M.kX c s,c.R⟩ b [] (ovS e h ke kh ((isl,.int .i64 k)::ue x) (uh x)))
  (stop:∀(x:σ) (K:St→Prop),Q (.nx x)→M.go ⟨c.P,c.H0,K,M.kX c s,c.R⟩ b [] (ovS e h ke kh ((isl,.int .i64 (xs.length:Int))::ue x) (uh x))):M.go c (.loop b) s ⟨e,h⟩ :=
 M.go_for (fun k x=>ovS e h ke kh ((isl,.int .i64 (k:Int))::ue x) (uh x)) ns hF h0 round fun k x K hk hq _=>by subst hk;exact stop x K hq
theorem a15.fold1 {α σ:Type} [Inhabited α] {b:MC} {body:Int→α→σ→Option σ} {xs:List α} {s0:σ} {Q:σ→Prop} (isl:Nat) (ke kh:List Nat) (ue:σ→List (Nat×V)) (uh:σ→List Up) (ns:List a4x) (hF:Ok (foldL body xs 0 s0) Q)
  (h0:a0q c.H0 ns ⟨e,h⟩ fun σ'=>a0u (ovS e h ke kh ((isl,.int .i64 ((0:Nat):Int))::ue s0) (uh s0)) σ')
  (round:∀(k:Nat) (a:α) (x:σ) (Qn:σ→Prop) (K:St→Prop),(∀σ',(a0q c.H0 ns σ' fun σ'=>∃y,Qn y∧a0u (ovS e h ke kh ((isl,.int .i64 ((k+1:Nat):Int))::ue y) (uh y)) σ')→K σ')→k<xs.length→xs.getD k default=a →
   Ok (body k a x) Qn→factsSt (ovS e h ke kh ((isl,.int .i64 k)::ue x) (uh x))→M.go ⟨c.P,c.H0,K,M.kX c s,c.R⟩ b [] (ovS e h ke kh ((isl,.int .i64 k)::ue x) (uh x)))
  (stop:∀(x:σ) (K:St→Prop),Q x→M.go ⟨c.P,c.H0,K,M.kX c s,c.R⟩ b [] (ovS e h ke kh ((isl,.int .i64 (xs.length:Int))::ue x) (uh x))):M.go c (.loop b) s ⟨e,h⟩ :=
 M.go_fold (fun k x=>ovS e h ke kh ((isl,.int .i64 (k:Int))::ue x) (uh x)) ns hF h0 round fun k x K hk hq _=>by subst hk;exact stop x K hq
end
theorem b6c {α:Type}:∀{l:List α} {i:Nat} {a:α},l[i]?=some a→(a::l.eraseIdx i).Perm l
 | x::r,0,a,h=>by simp at h;subst h;exact List.Perm.refl _
 | x::r,i+1,a,h=>by
  simp at h
  exact (List.Perm.swap x a _).trans ((b6c h).cons x)
 | [],_,_,h=>by simp at h
section
variable {M:a15} {c:Cfg} {e:List (Nat×V)} {h:Heap} {s:List Fr}
theorem a15.mfold1 {α σ γ:Type} {b:MC} {kv:α→V×V} {body:Int→α→σ→Option σ} {es:List α} {s0:σ} {R:σ→Option γ} {Q:γ→Prop} (it:Nat) (ke kh:List Nat) (ue:σ→List (Nat×V)) (uh:σ→List Up) (ns:List a4x)
  (hF:Ok (b7j (fun l=>(foldL body l 0 s0).bind R) es) Q)
  (h0:a0q c.H0 ns ⟨e,h⟩ fun σ'=>a0u (ovS e h ke kh (ue s0) (.o it (.iter (es.map kv) none)::uh s0)) σ')
  (round:∀(rem:List α) (cur:Option (V×V)) (x:σ) (k:Int) (Qn:Nat→σ→Prop) (K:St→Prop),(∀i cur' σ',(a0q c.H0 ns σ' fun σ'=>∃y,Qn i y∧a0u (ovS e h ke kh (ue y) (.o it (.iter ((rem.eraseIdx i).map kv) cur')::uh y)) σ')→K σ') →
   (rem=[]→Ok (R x) Q)→(∀i a,rem[i]?=some a→Ok (body k a x) (Qn i)) →
   M.go ⟨c.P,c.H0,K,M.kX c s,c.R⟩ b [] (ovS e h ke kh (ue x) (.o it (.iter (rem.map kv) cur)::uh x))):M.go c (.loop b) s ⟨e,h⟩:=by
 obtain ⟨r0,hr0,hq0⟩:=hF
 have hp0:=c7q hr0
 refine M.go_loop (fun x:List α×Option (V×V)×Int×σ=>ovS e h ke kh (ue x.2.2.2) (.o it (.iter (x.1.map kv) x.2.1)::uh x.2.2.2))
  (fun x=>∀l,l.Perm x.1→Ok ((foldL body l x.2.2.1 x.2.2.2).bind R) Q) (fun x=>x.1.length) ns
  (a1r (fun σ' h=>⟨(es,none,0,s0),fun l hl=>⟨r0,hp0 l hl,hq0⟩,h⟩) h0) fun x hx _=>?_
 obtain ⟨rem,cur,k,x⟩:=x
 simp only at hx
 refine round rem cur x k (fun i y=>i<rem.length∧∀l,l.Perm (rem.eraseIdx i)→Ok ((foldL body l (k+1) y).bind R) Q) _
  (fun i cur' σ' h=>Lk.mk (a1r (fun σ'' ⟨y,⟨hi,h1⟩,h2⟩=>⟨(rem.eraseIdx i,cur',k+1,y),h1,by simp only;rw [List.length_eraseIdx];split<;>omega,h2⟩) h)) (fun hr=>?_) fun i a ha=>?_
 ·have:=hx [] (by rw [hr])
  simpa only [foldL,xX] using this
 ·have hi:i<rem.length:=(zG.1 ha).1
  have h1:∀l,l.Perm (rem.eraseIdx i)→Ok ((foldL body (a::l) k x).bind R) Q:=fun l hl=>hx _ ((hl.cons a).trans (b6c ha))
  have h2:=h1 _ (List.Perm.refl _)
  simp only [foldL] at h2
  cases hb:body k a x with
  | none=>rw [hb] at h2;simp [b5d] at h2
  | some y =>
   refine ⟨y,rfl,hi,fun l hl=>?_⟩
   have:=h1 l hl
   simpa only [foldL,hb,xX] using this
end
section
variable {M:a15} {c:Cfg} {e:List (Nat×V)} {h:Heap} {s:List Fr}
theorem a15.rforC {α σ ρ:Type} {q:Opd} {ps:List Nat} {a b:MC} {gf:Nat} {caps:List V} {enc:α→List V} {body:Int→α→σ→Option (Fl σ ρ)} {xs:List α} {s0:σ} {Q:Fl σ ρ→Prop} (Hc:Heap) (pins:List Nat) (kh:List Nat) (uh:σ→List Up) (ns:List a4x)
  (hF:Ok (forL body xs 0 s0) Q) (hq:q.ev e=.fn (.func gf) caps) (hit:b89 c.P gf caps Hc (xs.map enc)) (hsc:a0u ⟨[],Hc⟩ ⟨e,h⟩) (hpin:b9o pins e=true) (hxs:∀a,(enc a).length=ps.length∧V.withinL [] (enc a)=true)
  (h0:a0u ⟨[],(ovS e h [] kh [] (uh s0)).heap⟩ ⟨e,h⟩) (hdis:∀q∈Hc,find q.1 (ovS e h [] kh [] (uh s0)).heap=none)
  (round:∀(k:Nat) (v:α) (x:σ) (Qn:σ→Prop) (K:St→Prop),(∀σ',(a0q (b7i c.H0 pins) ns σ' fun σ'=>∃y,Qn y∧a0u ⟨[],(ovS e h [] kh [] (uh y)).heap⟩ σ')→K σ')→k<xs.length →
   Ok (body k v x) (Fl.elim Qn fun r=>Q (.ex r))→b0i (ovS e h [] kh [] (uh x)).heap →
   M.go ⟨c.P,b7i c.H0 pins,K,fun i σ'=>M.kX c s i ⟨e,σ'.heap⟩,fun σ'=>c.R ⟨e,σ'.heap⟩⟩ (.seq a b) [] ⟨b5k ps (enc v) e,(ovS e h [] kh [] (uh x)).heap⟩)
  (hst:a.straight=true) (stop:∀x,Q (.nx x)→M.kN c s ⟨e,(ovS e h [] kh [] (uh x)).heap⟩):M.go c (.rngF q ps a b) s ⟨e,h⟩:=by
 refine M.go_rngF Hc (xs.map enc) pins (fun _ x=>(ovS e h [] kh [] (uh x)).heap) (fun k x=>k≤xs.length∧Ok (forL body (xs.drop k) k x) Q) ns hq hit hsc hpin (fun l hl=>?_) ⟨s0,⟨vH _,hF⟩,h0,hdis⟩ (fun k x l hk hp hf=>?_) hst fun x hx=>?_
 ·obtain ⟨a,_,rfl⟩:=vE.1 hl
  exact hxs a
 ·rw [xQ] at hk
  cases ha:xs[k]? with
  | none=>rw [ha] at hk;cases hk
  | some a =>
   rw [ha] at hk;cases hk
   have hlt:k<xs.length:=(zG.1 ha).1
   refine round k a x (fun y=>Ok (forL body (xs.drop (k+1)) (k+1:Nat) y) Q) _ (fun σ' h=>Lk.mk (a1r (fun σ'' ⟨y,h1,h2⟩=>⟨y,⟨hlt,h1⟩,h2⟩) h)) hlt ?_ hf
   obtain ⟨_,hx⟩:=hp
   have e1:xs.drop k=a::xs.drop (k+1):=by
    rw [List.drop_eq_getElem_cons hlt]
    have:=(zG.1 ha).2
    rw [this]
   rw [e1] at hx
   simp only [forL,a9i] at hx
   obtain ⟨o,ho,hx⟩:=hx
   refine ⟨o,ho,?_⟩
   cases o with
   | nx y=>exact hx
   | ex r=>simpa only [Fl.elim,b1z] using hx
 ·obtain ⟨_,hx⟩:=hx
  rw [wN,List.drop_length] at hx
  simp only [forL,b1z] at hx
  exact stop x hx
theorem a15.rfor {α σ ρ:Type} {q:Opd} {ps:List Nat} {a b:MC} {gf:Nat} {caps:List V} {enc:α→List V} {body:Int→α→σ→Option (Fl σ ρ)} {xs:List α} {s0:σ} {Q:Fl σ ρ→Prop} (pins:List Nat) (kh:List Nat) (uh:σ→List Up) (ns:List a4x)
  (hF:Ok (forL body xs 0 s0) Q) (hq:q.ev e=.fn (.func gf) caps) (hit:b89 c.P gf caps [] (xs.map enc)) (hpin:b9o pins e=true) (hxs:∀a,(enc a).length=ps.length∧V.withinL [] (enc a)=true)
  (h0:a0u ⟨[],(ovS e h [] kh [] (uh s0)).heap⟩ ⟨e,h⟩)
  (round:∀(k:Nat) (v:α) (x:σ) (Qn:σ→Prop) (K:St→Prop),(∀σ',(a0q (b7i c.H0 pins) ns σ' fun σ'=>∃y,Qn y∧a0u ⟨[],(ovS e h [] kh [] (uh y)).heap⟩ σ')→K σ')→k<xs.length →
   Ok (body k v x) (Fl.elim Qn fun r=>Q (.ex r))→b0i (ovS e h [] kh [] (uh x)).heap →
   M.go ⟨c.P,b7i c.H0 pins,K,fun i σ'=>M.kX c s i ⟨e,σ'.heap⟩,fun σ'=>c.R ⟨e,σ'.heap⟩⟩ (.seq a b) [] ⟨b5k ps (enc v) e,(ovS e h [] kh [] (uh x)).heap⟩)
  (hst:a.straight=true) (stop:∀x,Q (.nx x)→M.kN c s ⟨e,(ovS e h [] kh [] (uh x)).heap⟩):M.go c (.rngF q ps a b) s ⟨e,h⟩ :=
 M.rforC [] pins kh uh ns hF hq hit ⟨rfl,trivial,trivial⟩ hpin hxs h0 (fun _ h=>by cases h) round hst stop
end
theorem d7u {α:Type} {f:α→V×V} {l:List α} {p:Prop} {q:Nat→V×V→Prop}:((l.map f=[]→p)∧∀(i:Nat) (e:V×V),(l.map f)[i]?=some e→q i e)=((l=[]→p)∧∀(i:Nat) (a:α),l[i]?=some a→q i (f a)):=by
 refine propext ⟨fun ⟨h1,h2⟩=>⟨fun h=>h1 (by simp [h]),fun i a ha=>h2 i (f a) (by rw [xQ,ha];rfl)⟩,fun ⟨h1,h2⟩=>⟨fun h=>h1 (by simpa using h),fun i e he=>?_⟩⟩
 rw [xQ] at he
 cases ha:l[i]? with
 | none=>rw [ha] at he;cases he
 | some a=>rw [ha] at he;cases he;exact h2 i a ha
theorem c7t {α:Type} {rem:List α} {A A':Prop} {B B':Nat→α→Prop} (hs:rem=[]→A') (hn:∀i a,rem[i]?=some a→B' i a) (h1:A'→A) (h2:∀i a,B' i a→B i a):(rem=[]→A)∧∀(i:Nat) (a:α),rem[i]?=some a→B i a :=
 ⟨fun h=>h1 (hs h),fun i a h=>h2 i a (hn i a h)⟩
theorem c99 {α:Type} {f:α→V×V} {l:List α} {i:Nat}:(l.map f).eraseIdx i=(l.eraseIdx i).map f:=by
 induction l generalizing i with
 | nil=>rfl
 | cons x r ih=>cases i with
  | zero=>rfl
  | succ i=>simp [ih]
theorem a4o {n:Int} (h:(V.int .i64 n).fact):-9223372036854775808≤n∧n≤9223372036854775807:=h
theorem fork {a b a' b' p q:Prop} (h:(p→a')∧(q→b')) (h1:p→a'→a) (h2:q→b'→b):(p→a)∧(q→b):=⟨fun x=>h1 x (h.1 x),fun x=>h2 x (h.2 x)⟩
theorem a5w {a b a' b' p q:Prop} (h:(q→b')∧(p→a')) (h1:p→a'→a) (h2:q→b'→b):(p→a)∧(q→b):=⟨fun x=>h1 x (h.2 x),fun x=>h2 x (h.1 x)⟩
def ltb (n m:Nat):Bool:=decide (n<m)
theorem e8y {i:Int} {n:Nat} (h:inb i n=true):ltb i.toNat n=true:=wT (a2k h)
theorem c6g {i:Int} {n:Nat}:(i.toNat<n)=(ltb i.toNat n=true):=propext ⟨fun h=>wT h,fun h=>of_decide_eq_true h⟩
theorem e0g {a b p q:Prop} (h1:p→a) (h2:q→b):(p→a)∧(q→b):=⟨h1,h2⟩
theorem appG {r:Bool} {P:V→Prop} {l:List V} {a a':Prop} (h:r=true∧a') (h1:r=true→a'→a) (hl:∀y,y∈l→P y:=by first|(simp [V.cells];done)|(intro y hy;rcases wY.1 hy with rfl|hy<;>first|rfl|(obtain ⟨z,_,rfl⟩:=vE.1 hy;rfl))):(r=true∧∀y,y∈l→P y)∧a:=⟨⟨h.1,hl⟩,h1 h.1 h.2⟩
theorem b5w {r:Bool} {P:V→Prop} {l:List V} {a a':Prop} (h:r=true∧a') (h1:r=true→a'→a) (hl:∀y,y∈l→P y:=by first|(simp [V.cells];done)|(intro y hy;rcases wY.1 hy with rfl|hy<;>first|rfl|(obtain ⟨z,_,rfl⟩:=vE.1 hy;rfl))):(∀y,y∈l→P y)∧a:=⟨hl,h1 h.1 h.2⟩
theorem a5u {n m:Int} {b:Nat} {a a':Prop} (h:b2y n m b=true∧a') (h1:b2y n m b=true→a'→a):(0≤n∧n≤m∧m*(b:Int)≤140737488355328)∧a:=⟨a3v.1 h.1,h1 h.1 h.2⟩
theorem b5l {a a' p:Prop} (h:p∧a') (h1:p→a'→a):p∧a:=⟨h.1,h1 h.1 h.2⟩
theorem e0w {α β γ:Type} {f:α→γ} {g:β→γ} {a:α}:Sum.elim f g (.inl a)=f a:=rfl
theorem e0v {α β γ:Type} {f:α→γ} {g:β→γ} {b:β}:Sum.elim f g (.inr b)=g b:=rfl
theorem b3j {α:Type} [Inhabited α] {f:α→V} {l:List α} {i:Nat} (h:i<l.length):(l.map f)[i]?=some (f (l.getD i default)):=by simp [h]
theorem g7h {α:Type} [Inhabited α] {f:α→V} {l:List α} {i:Nat} {cs:List V} (h:i<l.length) (e:f (l.getD i default)=.agg cs):(l.map f)[i]?=some (V.agg cs):=(b3j h).trans (congrArg some e)
theorem g7g {α:Type} {f:α→V} {l:List α} {i:Nat} {cs:List V} (h:i<l.length):((l.map f).set i (V.agg cs))[i]?=some (V.agg cs):=by rw [List.getElem?_set_self (by rw [wN];exact h)]
theorem g0j {a b:Nat} {xs:List V}:(V.sl xs).sw a b=.sl xs:=by simp [V.sw]
theorem e4i {a b:Nat} {k:IntKind} {n:Int}:(V.int k n).sw a b=.int k n:=by simp [V.sw]
theorem d6f {a b:Nat} {x:Bool}:(V.bool x).sw a b=.bool x:=by simp [V.sw]
theorem e4g {a b:Nat} {x:List UInt8}:(V.str x).sw a b=.str x:=by simp [V.sw]
theorem d6d {a b:Nat} {kd:KD} {es:List (V×V)}:(V.smap kd es).sw a b=.smap kd es:=by simp [V.sw]
theorem d6e {a b:Nat} {c:UInt8}:(a18 c).sw a b=a18 c:=by simp [a18,V.sw]
theorem e4j {a b k:Nat} {xs:List V} {t:Option TypeId}:(a0i.arr k xs t).sw a b=.arr k xs t:=rfl
theorem e4h {a b:Nat} {kd:KD} {es:List (V×V)}:(a0i.map kd es).sw a b=.map kd es:=rfl
theorem f1x {a:UInt8} {t:List UInt8}:([V.int .u8 (a.toNat:Int)]=t.map a18)=(t=[a]):=propext
 ⟨fun h=>(bytes_inj (a:=[a]) h).symm,fun h=>by subst h;rfl⟩
theorem e08 {a b:UInt8} {t:List UInt8}:([V.int .u8 92,V.int .u8 120,V.int .u8 (a.toNat:Int),V.int .u8 (b.toNat:Int)]=t.map a18)=(t=[92,120,a,b]):=propext
 ⟨fun h=>(bytes_inj (a:=[92,120,a,b]) (b:=t) h).symm,fun h=>by subst h;rfl⟩
theorem f1w {a b:UInt8} {t:List UInt8}:([V.int .u8 (a.toNat:Int),V.int .u8 (b.toNat:Int)]=t.map a18)=(t=[a,b]):=propext
 ⟨fun h=>(bytes_inj (a:=[a,b]) h).symm,fun h=>by subst h;rfl⟩
section
variable {M:a15} {c:Cfg} {d:Option Nat} {r:List MOp} {s:List Fr} {e e0:List (Nat×V)} {h h0:Heap} {anc:List (List Nat)} {u t m:List Nat} {log:List Ent} {x:List UInt8} {n:Nat}
theorem a15.b2s_e:(∃t:List UInt8,t=x∧t.length=n∧a0x (M.lok c d r s e h) (.str t))=(x.length=n∧a0x (M.aft c d r s e h) (.str x)):=by
 simp [M.lok_comp]
theorem a15.b2s_eD:(∃t':List UInt8,t'=x∧t'.length=n∧a0x (M.lokD c anc e0 h0 d u t m r log s e h) (.str t'))=(x.length=n∧a0x (M.aftD c anc e0 h0 d u t m r log s e h) (.str x)):=by
 simp [M.lokD_comp]
end
def slV {α:Type} (f:α→V) (xs:List α):V:=.sl (xs.map f)
def kvV {α β:Type} (f:α→V) (g:β→V) (p:α×β):V×V:=(f p.1,g p.2)
def mpV {α β:Type} (kd:KD) (f:α→V) (g:β→V) (m:List (α×β)):V:=.smap kd (m.map (kvV f g))
theorem d0u (n:Int):((u8 n).toNat:Int)=n % 256:=by
 unfold u8
 have h:(n % 256).toNat<256:=by omega
 rw [UInt8.toNat_ofNat_of_lt' h];omega
theorem wrap_u8 (n:Int):IntKind.wrap .u8 n=((u8 n).toNat:Int):=by
 rw [d0u];simp [IntKind.wrap,IntKind.signed,IntKind.bits]
def d5i (a b:Int):Bool:=decide (0≤a)&&decide (0<b)
theorem b80 {a b:Int}:d5i a b=true↔0≤a∧0<b:=by simp [d5i]
def nzb (b:Int):Bool:=!decide (b=0)
theorem d7t {b:Int}:(b≠0)=(nzb b=true):=propext (by simp [nzb])
theorem d20 {b:Int}:(¬b=0)=(nzb b=true):=propext (by simp [nzb])
def e4m (b:Int) (n:Nat):Bool:=decide (0≤b)&&decide (b≤n)
def d53 (k:IntKind) (n:Int):Bool:=decide (k.min≤n)&&decide (n≤k.max)
def a7p {α β:Type} [DecidableEq α] (k:α):List (α×β)→Option β
 | []=>none
 | (a,b)::r=>if k=a then some b else a7p k r
def a9f {α β:Type} [DecidableEq α] (k:α) (v:β):List (α×β)→List (α×β)
 | []=>[(k,v)]
 | (a,b)::r=>if k=a then (a,v)::r else (a,b)::a9f k v r
def c07 {α β:Type} [DecidableEq α] (k:α):List (α×β)→List (α×β)
 | []=>[]
 | (a,b)::r=>if k=a then r else (a,b)::c07 k r
section
variable {α β:Type} [DecidableEq α] {f:α→V} {g:β→V}
theorem b47 (hk:∀a b,keq (f a) (f b)=decide (a=b)) (k:α):∀l:List (α×β),c38 (f k) (l.map (kvV f g))=(a7p k l).map g
 | []=>rfl
 | (a,b)::r=>by
  by_cases e:k=a
  ·simp [c38,a7p,kvV,hk,e]
  ·simp [c38,a7p,kvV,hk,e,b47 hk k r]
theorem b46 (hk:∀a b,keq (f a) (f b)=decide (a=b)) (k:α) (v:β):∀l:List (α×β),(a9f k v l).map (kvV f g)=b8a (f k) (g v) (l.map (kvV f g))
 | []=>rfl
 | (a,b)::r=>by
  by_cases e:k=a
  ·simp [b8a,a9f,kvV,hk,e]
  ·simp [b8a,a9f,kvV,hk,e,b46 hk k v r]
theorem b48 (hk:∀a b,keq (f a) (f b)=decide (a=b)) (k:α):∀l:List (α×β),(c07 k l).map (kvV f g)=c55 (f k) (l.map (kvV f g))
 | []=>rfl
 | (a,b)::r=>by
  by_cases e:k=a
  ·simp [c55,c07,kvV,hk,e]
  ·simp [c55,c07,kvV,hk,e,b48 hk k r]
theorem e5l {k:Int} {l:List (Int×β)}:c38 (.int .i64 k) (l.map (kvV (V.int .i64) g))=(a7p k l).map g:=b47 (fun _ _=>rfl) k l
theorem e5k {k:Str} {l:List (Str×β)}:c38 (.str k) (l.map (kvV V.str g))=(a7p k l).map g:=b47 (fun _ _=>rfl) k l
theorem e5j {k:Int} {v:β} {l:List (Int×β)}:(a9f k v l).map (kvV (V.int .i64) g)=b8a (.int .i64 k) (g v) (l.map (kvV (V.int .i64) g)):=b46 (fun _ _=>rfl) k v l
theorem e5i {k:Str} {v:β} {l:List (Str×β)}:(a9f k v l).map (kvV V.str g)=b8a (.str k) (g v) (l.map (kvV V.str g)):=b46 (fun _ _=>rfl) k v l
theorem e5n {k:Int} {l:List (Int×β)}:(c07 k l).map (kvV (V.int .i64) g)=c55 (.int .i64 k) (l.map (kvV (V.int .i64) g)):=b48 (fun _ _=>rfl) k l
theorem e5m {k:Str} {l:List (Str×β)}:(c07 k l).map (kvV V.str g)=c55 (.str k) (l.map (kvV V.str g)):=b48 (fun _ _=>rfl) k l
end
theorem h0d {d:Bool} {o:Option Bool}:a5p false (.bool d) (o.map V.bool)=.bool (o.getD d):=by cases o<;>rfl
theorem h0c {d:Int} {o:Option Int}:a5p false (.int .i64 d) (o.map (V.int .i64))=.int .i64 (o.getD d):=by cases o<;>rfl
theorem h0a {d:Str} {o:Option Str}:a5p false (.str d) (o.map V.str)=.str (o.getD d):=by cases o<;>rfl
theorem h0b {α:Type} {f:α→V} {o:Option (List α)}:a5p false (.sl []) (o.map (slV f))=.sl ((o.getD []).map f):=by cases o<;>rfl
theorem e92 {d:Bool} {o:Option Bool}:a5p true (.bool d) (o.map V.bool)=.tup [.bool (o.getD d),.bool o.isSome]:=by cases o<;>rfl
theorem e91 {d:Int} {o:Option Int}:a5p true (.int .i64 d) (o.map (V.int .i64))=.tup [.int .i64 (o.getD d),.bool o.isSome]:=by cases o<;>rfl
theorem e8z {d:Str} {o:Option Str}:a5p true (.str d) (o.map V.str)=.tup [.str (o.getD d),.bool o.isSome]:=by cases o<;>rfl
theorem e90 {α:Type} {f:α→V} {o:Option (List α)}:a5p true (.sl []) (o.map (slV f))=.tup [.sl ((o.getD []).map f),.bool o.isSome]:=by cases o<;>rfl
theorem d9a {i:Int} {n:Nat}:(0≤i∧i<(n:Int))=(inb i n=true):=propext u6.symm
theorem d97 {a b:Int} {n:Nat}:(0≤a∧a≤b∧b≤(n:Int))=(inc a b n=true):=propext a5v.symm
theorem d1d {n b:Nat}:(n*b≤140737488355328)=(room n b=true):=propext a6t.symm
theorem c74 {n m:Int} {b:Nat}:(0≤n∧n≤m∧m*b≤140737488355328)=(b2y n m b=true):=propext a3v.symm
theorem d3t {a b:Int}:(0≤a∧0<b)=(d5i a b=true):=propext b80.symm
theorem g1t {n:Nat} {b:Bool}:List.replicate n (V.bool b)=(List.replicate n b).map V.bool:=List.map_replicate.symm
theorem g1r {n:Nat} {b:Int}:List.replicate n (V.int .u64 b)=(List.replicate n b).map (V.int .u64):=List.map_replicate.symm
theorem e5d {n:Nat}:List.replicate n (V.sl [])=(List.replicate n ([]:List Int)).map (slV (V.int .i64)):=by rw [List.map_replicate];rfl
theorem b63 {a:Int}:(0≤a∧a≤64)=(e4m a 64=true):=propext (by simp [e4m])
theorem g1s {n:Nat} {b:Int}:List.replicate n (V.int .i64 b)=(List.replicate n b).map (V.int .i64):=List.map_replicate.symm
open Classical in
def amb {α:Type} (c:Bool) (a b:Option α):Option α:=if c=true→a=b then b else none
theorem c3y {α:Type} {c:Bool} {a b:Option α} (h:c=true→a=b):amb c a b=b:=by unfold amb;exact if_pos h
theorem d4l {α:Type} {c:Bool} {a b:Option α} {Q:α→Prop} {p A B:Prop} (h:Ok (amb c a b) Q) (hp:p→c=true) (h1:c=true→Ok a Q→A) (h2:Ok b Q→B):(p→A)∧B:=by
 unfold amb at h
 split at h
 ·rename_i hc
  exact ⟨fun x=>h1 (hp x) (by rw [hc (hp x)];exact h),h2 h⟩
 ·rw [b5d] at h;exact h.elim
theorem d9u {α:Type} [Inhabited α] {f:α→V} {xs:List α} {k:Nat} {a:α} (ha:xs.getD k default=a) (hk:k<xs.length):(xs.map f).drop (k*1)=f a::(xs.map f).drop (k+1):=by
 rw [Nat.mul_one,←List.map_drop,b4x hk,ha,wZ,List.map_drop]
theorem b3u (k:IntKind) {n:Int}:rng k n=(d53 k n=true):=propext (by rw [←a1q];simp [d53,inR])
theorem d1h {n:Int}:rng .i32 n=(d53 .i32 n=true):=b3u .i32
theorem d1f {n:Int}:rng .u32 n=(d53 .u32 n=true):=b3u .u32
theorem d1e {n:Int}:rng .u64 n=(d53 .u64 n=true):=b3u .u64
theorem d1i {n:Int}:rng .i16 n=(d53 .i16 n=true):=b3u .i16
theorem d1g {n:Int}:rng .u16 n=(d53 .u16 n=true):=b3u .u16
attribute [irreducible] a0w inb inc room b2y d5i e4m d53 ltb
@[reducible,go_sem] def mo (i:a0a) (d:Nat):MOp:=⟨i,some d,none⟩
theorem kI {k:Nat} (h:(k:Int)+1≤9223372036854775807):a0w ((k:Int)+1)=true:=a3d.2 ⟨by omega,by omega⟩
structure Cv (p q:Prop):Prop where
 e:p=q
theorem Cv.r {p:Prop}:Cv p p:=⟨rfl⟩
theorem tB {p q:Prop} (h:q) (e:Cv p q:=by (simp (maxSteps:=400000) only [go_sem,Nat.reduceBEq,Nat.reduceAdd,Nat.reduceLeDiff,Nat.reduceSub,Nat.reduceMul,Int.reduceToNat,Int.reduceLT,Int.reduceLE];exact Cv.r)):p:=e.e▸h
theorem tH {p q:Prop} (h:p) (e:Cv p q:=by (simp (maxSteps:=400000) only [go_sem,Nat.reduceBEq,Nat.reduceAdd,Nat.reduceLeDiff,Nat.reduceSub,Nat.reduceMul,Int.reduceToNat,Int.reduceLT,Int.reduceLE];exact Cv.r)):q:=e.e▸h
theorem tU0 {p:Prop} (h:p:=by (refine ⟨?_,?_,?_⟩<;>(try simp (maxSteps:=400000) only [go_sem,Nat.reduceBEq,Nat.reduceAdd,Nat.reduceLeDiff,Nat.reduceSub,Nat.reduceMul,Int.reduceToNat,Int.reduceLT,Int.reduceLE,St.good,c54,distinct,a0u,e1y,c47])<;>(repeat' (first|exact trivial|rfl|apply And.intro|(simp;done))))):p:=h
theorem tU {p:Prop} (h:p:=by (refine ⟨?_,?_,?_⟩<;>(try simp (maxSteps:=400000) only [go_sem,Nat.reduceBEq,Nat.reduceAdd,Nat.reduceLeDiff,Nat.reduceSub,Nat.reduceMul,Int.reduceToNat,Int.reduceLT,Int.reduceLE,St.good,c54,distinct,a0u,e1y,c47, *])<;>(repeat' (first|exact trivial|rfl|apply And.intro|(simp [*];done)|(exfalso;simp only [xV,Bool.not_eq_false',xM,zK] at *;contradiction))))):p:=h
theorem tK {p q a b c d e:Prop} (h1:a) (h2:b) (h3:c) (h4:d) (h5:e) (h:q) (e:a→b→c→d→e→Cv p q:=by (intro h1 h2 h3 h4 h5;simp (maxSteps:=400000) only [go_sem,Nat.reduceBEq,Nat.reduceAdd,Nat.reduceLeDiff,Nat.reduceSub,Nat.reduceMul,Int.reduceToNat,Int.reduceLT,Int.reduceLE,h1,h2,h3,h4,h5];exact Cv.r)):p:=(e h1 h2 h3 h4 h5).e▸h
theorem tKA {p q a b c d e f g i j:Prop} (h1:a) (h2:b) (h3:c) (h4:d) (h5:e) (h6:f) (h7:g) (h8:i) (h9:j) (h:q) (e:a→b→c→d→e→f→g→i→j→Cv p q:=by (intro h1 h2 h3 h4 h5 h6 h7 h8 h9;simp (maxSteps:=400000) only [go_sem,Nat.reduceBEq,Nat.reduceAdd,Nat.reduceLeDiff,Nat.reduceSub,Nat.reduceMul,Int.reduceToNat,Int.reduceLT,Int.reduceLE,h1,h2,h3,h4,h5,h6,h7,h8,decide_true,vO,h9];exact Cv.r)):p:=(e h1 h2 h3 h4 h5 h6 h7 h8 h9).e▸h
theorem kB {k n:Nat} (h:k<n):inb (k:Int) n=true:=u6.2 ⟨Int.natCast_nonneg k,Int.ofNat_lt.2 h⟩
theorem b4q {α:Type} [Inhabited α] {f:α→V} {l:List α} {i k:Nat} {a:α} (h:k<l.length):((l.map f).set i (f a))[k]?=some (f ((l.set i a).getD k default)):=by
 rw [←List.map_set,xQ,zE,zJ (by simpa using h)]
 rfl
theorem a9d {k n:Nat} (h:inb (k:Int) n=true):k<n:=Int.ofNat_lt.1 (u6.1 h).2
theorem kD {k n:Nat} (h:k<n):decide ((k:Int)<(n:Int))=true:=wT (Int.ofNat_lt.2 h)
theorem tZ {p:Prop} (x:p:=by (first|exact hQ _ h|exact trivial|exact False.elim h|(have hq:=hQ _ h;replace hq:=tH hq;exact hq)|(have hq:=hQ _ h;rw [zP (by simp only [wA,wN];omega)];exact hq))):p:=x
theorem b5p {i m:Int} {n:Nat} {a a':Prop} (h:inb i n=true∧a') (h1:inb i n=true→a'→a) (e:(n:Int)=m:=by rfl):(0≤i∧i<m)∧a:=⟨e▸u6.1 h.1,h1 h.1 h.2⟩
theorem b5o {a b m:Int} {n:Nat} {p p':Prop} (h:inc a b n=true∧p') (h1:inc a b n=true→p'→p) (e:(n:Int)=m:=by rfl):(0≤a∧a≤b∧b≤m)∧p:=⟨e▸a5v.1 h.1,h1 h.1 h.2⟩
theorem c8o {c:UInt8}:a0w (c.toNat:Int)=true:=by rw [a3d];have:=c.toNat_lt;omega
theorem d36 {n:Nat} {c:UInt8}:(a18 c).has n=false:=by simp [a18,V.has]
def fnV:Option Nat→V
 | none=>.nilf
 | some f=>.fn (.func f) []
theorem d3h:fnV none=.nilf:=rfl
theorem d3f {f:Nat}:fnV (some f)=.fn (.func f) []:=rfl
theorem d5g {o:Option Nat}:(fnV o).sc=true:=by cases o<;>rfl
theorem c8u {o:Option Nat}:(fnV o).one=true:=by cases o<;>rfl
theorem c8w {n:Nat} {o:Option Nat}:(fnV o).has n=false:=by cases o<;>simp [fnV,V.has,V.hasL]
theorem b9d {o:Option Nat}:(fnV o).cells=[fnV o]:=by cases o<;>rfl
theorem c3n {o:Option Nat}:(fnV o).nany=true:=by cases o<;>rfl
theorem c8v {o:Option Nat}:(fnV o).nav=true:=by cases o<;>rfl
theorem d5f {a b:Nat} {o:Option Nat}:(fnV o).sw a b=fnV o:=by cases o<;>simp [fnV,V.sw,V.swL]
theorem b9c {o:Option Nat}:(fnV o).unnil=fnV o:=by cases o<;>simp [fnV,V.unnil]
theorem c3m {o:Option Nat}:(fnV o).oids=[]:=by cases o<;>rfl
theorem c8t {ng:Bool} {o:Option Nat} {K:Eff→Prop}:e2n ng (fnV o) K=K (evl (.bool (bif ng then o.isSome else !o.isSome))):=by cases o<;>cases ng<;>rfl
theorem d9j {n f:Nat}:(V.fn (.func f) []).has n=false:=by simp [V.has,V.hasL]
theorem e0d {d:Nat} {o:Option Nat} {K:Eff→Prop}:d75 d (fnV o) K=K ⟨.ptr d 0,[],[(d,.cells [fnV o])]⟩:=by cases o<;>rfl
attribute [go_sem] d3h d3f d5g c8u c8w b9d c3n c8v d5f b9c c3m c8t d9j e0d
theorem d9i {n:Nat} {b:Bool}:(V.ifc b).has n=false:=by simp [V.has]
theorem d9m {n b o:Nat}:(V.adr b o).has n=false:=by simp [V.has]
theorem e9h {n i b:Nat}:(V.at_ i b).has n=Nat.beq n i:=by simp [V.has]
attribute [go_sem] d9i d9m e9h
attribute [go_sem] d7t d20
attribute [irreducible] nzb
attribute [go_sem] c8o d36 List.getElem?_cons_zero zN
inductive IsMap {α:Type} (f:α→V):List V→List α→Prop
 | nil:IsMap f [] []
 | cons {a:α} {L:List V} {l:List α} (h:IsMap f L l):IsMap f (f a::L) (a::l)
theorem IsMap.app {α:Type} {f:α→V} {l:List α} {L:List V} {l':List α} (h:IsMap f L l'):IsMap f (l.map f++L) (l++l'):=by
 induction l with
 | nil=>exact h
 | cons a l ih=>exact .cons ih
theorem IsMap.eq {α:Type} {f:α→V} {L:List V} {l:List α} (h:IsMap f L l):L=l.map f:=by
 induction h with
 | nil=>rfl
 | cons h ih=>rw [ih];rfl
theorem tE4 {α:Type} [Inhabited α] {L:List V} {l:List α} (f:α→V) {i:Nat} {p:V→Prop} (b:p (f (l.getD i default))) (e:IsMap f L l:=by repeat (first|exact IsMap.nil|apply IsMap.cons)) (h:i<l.length:=by first|assumption|exact a2k (by assumption)):∃x,L[i]?=some x∧p x:=e.eq▸⟨_,b3j h,b⟩
theorem tE6 {α:Type} [Inhabited α] {L:List V} (f:α→V) (l:List α) {i:Nat} {p:V→Prop} (b:p (f (l.getD i default))) (e:L=l.map f:=by (simp only [wZ,vF,slV]<;>rfl)) (h:i<l.length:=by first|assumption|exact a2k (by assumption)):∃x,L[i]?=some x∧p x:=by
 subst e;exact ⟨_,b3j h,b⟩
theorem b2l {l:List UInt8} {i:Nat} {c:UInt8} {p:List UInt8→Prop}:(∃t:List UInt8,(l.map a18).set i (V.int .u8 (c.toNat:Int))=t.map a18∧p t)=p (l.set i c):=by
 have e:(l.map a18).set i (V.int .u8 (c.toNat:Int))=(l.set i c).map a18:=by rw [List.map_set];rfl
 rw [e,b7y]
theorem a15.b2s_set {M:a15} {c:Cfg} {d:Option Nat} {r:List MOp} {s:List Fr} {e:List (Nat×V)} {h:Heap} {l:List UInt8} {i n:Nat} {b:UInt8}:(∃t:List UInt8,(l.map a18).set i (V.int .u8 (b.toNat:Int))=t.map a18∧t.length=n∧a0x (M.lok c d r s e h) (.str t))=((l.set i b).length=n∧a0x (M.aft c d r s e h) (.str (l.set i b))):=by rw [b2l,M.lok_comp]
theorem a15.b2s_setD {M:a15} {c:Cfg} {anc:List (List Nat)} {e0 e:List (Nat×V)} {h0 h:Heap} {d:Option Nat} {u t m:List Nat} {r:List MOp} {log:List Ent} {s:List Fr} {l:List UInt8} {i n:Nat} {b:UInt8}:(∃t':List UInt8,(l.map a18).set i (V.int .u8 (b.toNat:Int))=t'.map a18∧t'.length=n∧a0x (M.lokD c anc e0 h0 d u t m r log s e h) (.str t'))=((l.set i b).length=n∧a0x (M.aftD c anc e0 h0 d u t m r log s e h) (.str (l.set i b))):=by rw [b2l,M.lokD_comp]
theorem b5u {n m:Int} {a a':Prop} (h:d5i n m=true∧a') (h1:d5i n m=true→a'→a):0≤n∧a:=⟨(b80.1 h.1).1,h1 h.1 h.2⟩
theorem tA {p q:Prop} (b:q) (a:p:=by (first|exact e03 rfl|assumption|exact e8y (by assumption)|exact a9d (by assumption)|omega)):p∧q:=⟨a,b⟩
theorem tE {α:Type} [Inhabited α] {f:α→V} {l:List α} {i:Nat} {p:V→Prop} (b:p (f (l.getD i default))) (h:i<l.length:=by exact a2k (by assumption)):∃x,(l.map f)[i]?=some x∧p x:=⟨_,b3j h,b⟩
theorem tY {a b:Prop} (h:a) (e:Cv a b:=by (first|(simp (maxSteps:=400000) only [go_sem,Nat.reduceBEq,Nat.reduceAdd,Nat.reduceLeDiff,Nat.reduceSub,Nat.reduceMul,Int.reduceToNat,Int.reduceLT,Int.reduceLE];exact Cv.r)|exact Cv.r)):b:=e.e▸h
theorem a15.sC (M:a15) {P:Program} {n:Nat} {args cap:List V} {ids news:List Nat} {ob:Nat→Option a0i} {H H1:Heap} {r:V} {c:Cfg} {d:Option Nat} {o:List MOp} {s:List Fr} {e:List (Nat×V)} {h:Heap} (hc:a0s P n (args++cap) H (fun r' H'=>r'=r∧H'=H1)) (x:M.aft c d o s e h ⟨r,ids,H1⟩)
  (hs:b8f ids ob=some H:=by rfl) (hi:b1q H1 ids news=true:=by rfl):b2x P (.fn (.func n) cap) args ids news ob (M.lok c d o s e h):=c2q hc hs hi (by rw [M.lok_eq];exact x)
theorem a15.sD (M:a15) {P:Program} {n:Nat} {args cap:List V} {ids news:List Nat} {ob:Nat→Option a0i} {H H1:Heap} {r:V} {c:Cfg} {anc:List (List Nat)} {e0:List (Nat×V)} {h0:Heap} {d:Option Nat} {u t m:List Nat} {o:List MOp} {log:List Ent} {s:List Fr} {e:List (Nat×V)} {h:Heap} (hc:a0s P n (args++cap) H (fun r' H'=>r'=r∧H'=H1)) (x:M.aftD c anc e0 h0 d u t m o log s e h ⟨r,ids,H1⟩)
  (hs:b8f ids ob=some H:=by rfl) (hi:b1q H1 ids news=true:=by rfl):b3r P (.fn (.func n) cap) args ids news ob (M.lokD c anc e0 h0 d u t m o log s e h):=c6v hc hs hi (by rw [M.lokD_eq];exact x)
def Cn {α:Type} (P:Program) (n:Nat) (args:List V) (H:Heap) (F:Option α) (RV:α→V) (HV:α→Heap):Prop:=∀(Q:α→Prop) (Q':V→Heap→Prop),Ok F Q→(∀z,Q z→Q' (RV z) (HV z))→a0s P n args H Q'
theorem Cn.w {α:Type} {F:Option α} {P:Program} {n:Nat} {args:List V} {H:Heap} {RV:α→V} {HV:α→Heap} (h:Cn P n args H F RV HV) {y:α} (hy:F=some y):a0s P n args H (fun r H'=>r=RV y∧H'=HV y) :=
 h (·=y) _ ⟨_,hy,rfl⟩ fun z e=>e▸⟨rfl,rfl⟩
@[reducible,go_sem] def oV (a d:Nat):MOp:=⟨.mv (.t a),some d,none⟩
@[reducible,go_sem] def oL (a d:Nat):MOp:=⟨.ld none (.t a),some d,none⟩
@[reducible,go_sem] def oF (o a d:Nat):MOp:=⟨.fad o (.t a),some d,none⟩
@[reducible,go_sem] def cI (n:Int):Opd:=.c (.int .i64 n)
@[reducible,go_sem] def oC (n:Int) (d:Nat):MOp:=⟨.mv (.c (.int .i64 n)),some d,none⟩
@[reducible,go_sem] def gF (s d:Nat) (i:a0a):MOp:=⟨i,some d,some (s,false)⟩
@[reducible,go_sem] def gT (s d:Nat) (i:a0a):MOp:=⟨i,some d,some (s,true)⟩
@[reducible,go_sem] def lN (n a d:Nat):MOp:=⟨.ld (some n) (.t a),some d,none⟩
@[reducible,go_sem] def bx (a d:Nat):MOp:=⟨.box (.t a),some d,none⟩
@[reducible,go_sem] def mF (d:Nat):MOp:=⟨.mv (.c (.bool false)),some d,none⟩
@[reducible,go_sem] def mT (d:Nat):MOp:=⟨.mv (.c (.bool true)),some d,none⟩
@[reducible,go_sem] def lE (a d:Nat):MOp:=⟨.len false (.t a),some d,none⟩
@[reducible,go_sem] def iA (k a b d:Nat):MOp:=⟨.iad k (.t a) (.t b),some d,none⟩
@[reducible,go_sem] def aI (a:Nat) (n:Int) (d:Nat):MOp:=⟨.bin true .add (.t a) (.c (.int .i64 n)),some d,none⟩
@[reducible,go_sem] def sI (a:Nat) (n:Int) (d:Nat):MOp:=⟨.bin true .sub (.t a) (.c (.int .i64 n)),some d,none⟩
@[reducible,go_sem] def pO (a b d:Nat):MOp:=⟨.pick (.t a) (.c (.bool true)) (.t b),some d,none⟩
@[reducible,go_sem] def pA (a b d:Nat):MOp:=⟨.pick (.t a) (.t b) (.c (.bool false)),some d,none⟩
@[reducible,go_sem] def bT (o:BinOp) (a b d:Nat):MOp:=⟨.bin false o (.t a) (.t b),some d,none⟩
@[reducible,go_sem] def bC (o:BinOp) (a:Nat) (n:Int) (d:Nat):MOp:=⟨.bin false o (.t a) (.c (.int .i64 n)),some d,none⟩
@[reducible,go_sem] def xT (i a d:Nat):MOp:=⟨.ext i (.t a),some d,none⟩
@[reducible,go_sem] def nT (a d:Nat):MOp:=⟨.not (.t a),some d,none⟩
@[reducible,go_sem] def k1 (f a d:Nat):MOp:=⟨.call (.f f) [.t a] [] [],some d,none⟩
@[reducible,go_sem] def k2 (f a b d:Nat):MOp:=⟨.call (.f f) [.t a,.t b] [] [],some d,none⟩
@[reducible,go_sem] def k3 (f a b c d:Nat):MOp:=⟨.call (.f f) [.t a,.t b,.t c] [] [],some d,none⟩
@[reducible,go_sem] def ap (k n a b d:Nat):MOp:=⟨.app k n (.t a) (.t b),some d,none⟩
@[reducible,go_sem] def tL (s d a:Nat):MOp:=⟨.ld none (.t a),some d,some (s,true)⟩
@[reducible,go_sem] def ta_ (s d o a:Nat):MOp:=⟨.fad o (.t a),some d,some (s,true)⟩
@[reducible,go_sem] def tV (s d a:Nat):MOp:=⟨.mv (.t a),some d,some (s,true)⟩
@[reducible,go_sem] def fL (s d a:Nat):MOp:=⟨.ld none (.t a),some d,some (s,false)⟩
@[reducible,go_sem] def fa_ (s d o a:Nat):MOp:=⟨.fad o (.t a),some d,some (s,false)⟩
@[reducible,go_sem] def fV (s d a:Nat):MOp:=⟨.mv (.t a),some d,some (s,false)⟩
@[reducible,go_sem] def sR (l:List MOp) (b:MC):MC:=.seq (.reg l) b
theorem a2m {P:Program} {f:Nat} {fn:Func} {args:List V} {H:Heap} {Q:V→Heap→Prop} (mc:MC) (ns:List a4x) (rids:List Nat) (rs:List RS) (hf:P.funcs[f]?=some fn)
  (h:∀M:a15,M.go ⟨P,H,a2i H ns rids rs Q,fun _ _=>False,a2i H ns rids rs Q⟩ mc [] ⟨a4q 0 args,H⟩) (hb:fn.body=some (fn.body.getD .skip):=by rfl) (hc:callable P f=true:=by kernel_rfl)
  (hok:mc.ok P fn.ntmps (fn.body.getD .skip)=true:=by kernel_rfl) (hnh:mc.nh=true:=by kernel_rfl) (hrs:a6u P rs fn.results.toList=true:=by kernel_rfl) (hn:Nat.ble args.length fn.ntmps=true:=by rfl) (hg:St.good ⟨a4q 0 args,H⟩=true:=by rfl):a0s P f args H Q :=
 c2e ns rids rs hf hb hc hnh hok hrs hn hg fun M _=>h M
theorem c6l {α:Type} {f:α→V} {a:V} {L:List α}:List.take (1+L.length) (a::L.map f)=a::L.map f:=zP (by rw [wA,wN];omega)
theorem f1q {α:Type} {l:List α} {i:Nat}:(l.length - i≤(List.take (l.length - i) (List.drop i l)).length)=True:=eq_true (by rw [xZ,List.length_drop];omega)
theorem c50 {n:Nat}:(1+n≤n+1)=True:=eq_true (by omega)
attribute [go_sem] c6l f1q c50 Nat.sub_zero
end
end Go.Ab
namespace Go.Ab
section
variable {α β σ ρ:Type} {Q:β→Prop} {P:α→Prop}
theorem Ok.bind {o:Option α} {f:α→Option β} (h:Ok o P) (k:∀y,P y→Ok (f y) Q):Ok (o.bind f) Q:=by
 obtain ⟨y,rfl,hy⟩:=h;exact k y hy
theorem Ok.jn {o:Option α} {f:α→Option β} (h:Ok o P) (k:∀y,P y→Ok (f y) Q):Ok (jn o f) Q:=Ok.bind h k
theorem Ok.grp {x:α} {f:α→Option β} (h:Ok (f x) Q):Ok (grp x f) Q:=h
theorem Ok.chk {b:Bool} {o:Option β} (hb:b=true) (h:Ok o Q):Ok (chk b o) Q:=by rw [d5p];exact ⟨hb,h⟩
theorem Ok.ret {x:β} (h:Q x):Ok (some x) Q:=⟨x,rfl,h⟩
theorem Ok.mono {o:Option β} {Q':β→Prop} (h:Ok o Q') (k:∀y,Q' y→Q y):Ok o Q:=by
 obtain ⟨y,e,hy⟩:=h;exact ⟨y,e,k y hy⟩
theorem Ok.ite {b:Bool} {x y:Option β} (h1:b=true→Ok x Q) (h2:b=false→Ok y Q):Ok (bif b then x else y) Q:=by
 rw [d5o];exact ⟨h1,h2⟩
theorem Ok.eq {o:Option β} {x:β} (h:Ok o (·=x)):o=some x:=by obtain ⟨y,e,rfl⟩:=h;exact e
theorem Ok.of {o:Option β} {x:β} (h:o=some x) (hq:Q x):Ok o Q:=⟨x,h,hq⟩
theorem Ok.val {o:Option β} {x:β} (h:Ok o Q) (e:o=some x):Q x:=by obtain ⟨y,e',h⟩:=h;rw [e] at e';cases e';exact h
theorem Ok.foldI {body:Int→α→σ→Option σ} {Q:σ→Prop} {all:List α} (I:List α→σ→Prop):∀(xs pre:List α) (k:Int) (s:σ),all=pre++xs→k=pre.length→I pre s →
  (∀(pre:List α) (x:α) (r:List α) (s:σ),all=pre++x::r→I pre s→Ok (body pre.length x s) (I (pre++[x])))→(∀s,I all s→Q s)→Ok (foldL body xs k s) Q
 | [],pre,k,s,hw,hk,h,step,fin=>by
  simp only [foldL];exact ⟨s,rfl,fin s (by rw [hw];simpa using h)⟩
 | x::r,pre,k,s,hw,hk,h,step,fin=>by
  simp only [foldL]
  refine Ok.bind (by rw [hk];exact step pre x r s hw h) fun y hy=>?_
  exact Ok.foldI I r (pre++[x]) (k+1) y (by simp [hw]) (by simp [hk]) hy step fin
theorem Ok.fold {body:Int→α→σ→Option σ} {Q:σ→Prop} (I:σ→Prop):∀(xs:List α) (k:Int) (s:σ),I s →
  (∀k x s,x∈xs→I s→Ok (body k x s) I)→(∀s,I s→Q s)→Ok (foldL body xs k s) Q
 | [],k,s,h,step,fin=>⟨s,rfl,fin s h⟩
 | x::r,k,s,h,step,fin=>by
  simp only [foldL]
  exact Ok.bind (step k x s (by simp) h) fun y hy=>Ok.fold I r (k+1) y hy (fun k x s hx=>step k x s (by simp [hx])) fin
theorem Ok.forI {body:Int→α→σ→Option (Fl σ ρ)} {Q:Fl σ ρ→Prop} {all:List α} (I:List α→σ→Prop):∀(xs pre:List α) (k:Int) (s:σ),all=pre++xs→k=pre.length→I pre s →
  (∀(pre:List α) (x:α) (r:List α) (s:σ),all=pre++x::r→I pre s→Ok (body pre.length x s) (Fl.elim (I (pre++[x])) fun r=>Q (.ex r)))→(∀s,I all s→Q (.nx s))→Ok (forL body xs k s) Q
 | [],pre,k,s,hw,hk,h,step,fin=>by
  simp only [forL];exact ⟨_,rfl,fin s (by rw [hw];simpa using h)⟩
 | x::r,pre,k,s,hw,hk,h,step,fin=>by
  simp only [forL]
  refine Ok.bind (by rw [hk];exact step pre x r s hw h) fun y hy=>?_
  cases y with
  | nx s'=>exact Ok.forI I r (pre++[x]) (k+1) s' (by simp [hw]) (by simp [hk]) hy step fin
  | ex e=>exact ⟨_,rfl,hy⟩
theorem Ok.for {body:Int→α→σ→Option (Fl σ ρ)} {Q:Fl σ ρ→Prop} (I:σ→Prop):∀(xs:List α) (k:Int) (s:σ),I s →
  (∀k x s,x∈xs→I s→Ok (body k x s) (Fl.elim I fun r=>Q (.ex r)))→(∀s,I s→Q (.nx s))→Ok (forL body xs k s) Q
 | [],k,s,h,step,fin=>⟨.nx s,rfl,fin s h⟩
 | x::r,k,s,h,step,fin=>by
  simp only [forL]
  refine Ok.bind (step k x s (by simp) h) fun y hy=>?_
  cases y with
  | nx s'=>exact Ok.for I r (k+1) s' hy (fun k x s hx=>step k x s (by simp [hx])) fin
  | ex e=>exact ⟨_,rfl,hy⟩
theorem Ok.loop {step:σ→Option (Fl σ ρ)} {Q:ρ→Prop} (I:σ→Prop) (μ:σ→Nat) (hs:∀s,I s→Ok (step s) (Fl.elim (fun s'=>I s'∧μ s'<μ s) Q)) (s:σ) (h:I s):Ok (loop step s) Q:=by
 rw [b49]
 refine Ok.bind (hs s h) fun y hy=>?_
 cases y with
 | nx s'=>exact Ok.loop I μ hs s' hy.1
 | ex r=>exact ⟨r,rfl,hy⟩
 termination_by μ s
 decreasing_by exact hy.2
end
def a5c {α ρ:Type} (f:α→Option ρ):List α→Option ρ
 | []=>none
 | x::r=>match f x with
  | some y=>some y
  | none=>a5c f r
def flO {ρ:Type}:Option ρ→Fl Unit ρ
 | some y=>.ex y
 | none=>.nx ()
theorem a1c {α ρ:Type} {body:Int→α→Unit→Option (Fl Unit ρ)} (f:α→Option ρ):∀(xs:List α) (k:Int),(∀k x,x∈xs→body k x ()=some (flO (f x)))→forL body xs k ()=some (flO (a5c f xs))
 | [],k,h=>rfl
 | x::r,k,h=>by
  simp only [forL,h k x (by simp),xX,a5c]
  cases f x with
  | some y=>rfl
  | none=>exact a1c f r (k+1) fun k x hx=>h k x (by simp [hx])
theorem a3t {ρ γ:Type} {a:Unit→γ} {b:ρ→γ} (o:Option ρ):Fl.elim a b (flO o)=(match o with|some y=>b y|none=>a ()):=by cases o<;>rfl
end Go.Ab
namespace Go.Ab
open Go.RowKit
inductive Sh where
 | bool
 | int (k:IntKind)
 | str
 | sl (agg:Bool) (cs:List Sh)
 | rk (R:V→Prop)
mutual
def Sh.has:Sh→V→Prop
 | .bool,x=>∃b,x=.bool b
 | .int k,x=>∃n,x=.int k n∧rng k n
 | .str,x=>∃s,x=.str s
 | .sl agg cs,x=>∃ys,x=.sl ys∧∀y∈ys,bif agg then ∃zs,y=.agg zs∧Sh.hasL cs zs else Sh.hasL cs [y]
 | .rk R,x=>R x
def Sh.hasL:List Sh→List V→Prop
 | [],[]=>True
 | s::r,x::q=>s.has x∧Sh.hasL r q
 | _,_=>False
end
mutual
def shT (P:Program) (ρ:TypeId→Option (V→Prop)):Nat→TypeId→Option (Bool×List Sh)
 | 0,_=>none
 | n+1,t=>match P.underlying t with
  | some .bool=>some (false,[.bool])
  | some (.int k)=>some (false,[.int k])
  | some .string=>some (false,[.str])
  | some (.slice e)=>match ρ t with
   | some R=>some (false,[.rk R])
   | none=>match shT P ρ n e with
    | some (b,cs)=>bif Nat.beq (P.cellsOf e) cs.length&&Nat.blt 0 cs.length&&(b||Nat.beq cs.length 1) then some (false,[.sl b cs]) else none
    | none=>none
  | some (.struct fs)=>match e1z P ρ n 0 fs.toList with
   | some cs=>bif Nat.beq (P.cellsOf t) cs.length then some (true,cs) else none
   | none=>none
  | _=>none
def e1z (P:Program) (ρ:TypeId→Option (V→Prop)):Nat→Nat→List Field→Option (List Sh)
 | 0,_,_=>none
 | _+1,_,[]=>some []
 | n+1,off,f::r=>match shT P ρ n f.type with
  | some (_,cs)=>bif Nat.beq f.offset off&&Nat.beq (P.cellsOf f.type) cs.length then (match e1z P ρ n (off+cs.length) r with|some q=>some (cs++q)|none=>none) else none
  | none=>none
end
theorem b4n:∀{a b:List Sh} {x y:List V},Sh.hasL a x→Sh.hasL b y→Sh.hasL (a++b) (x++y)
 | [],b,[],y,_,h=>h
 | s::r,b,z::q,y,h,h'=>⟨h.1,b4n h.2 h'⟩
 | [],_,_::_,_,h,_=>h.elim
 | _::_,_,[],_,h,_=>h.elim
theorem a5r:∀{a:List Sh} {x:List V},Sh.hasL a x→x.length=a.length
 | [],[],_=>rfl
 | s::r,z::q,h=>by simp [a5r h.2]
 | [],_::_,h=>h.elim
 | _::_,[],h=>h.elim
section
variable {H:Type} {enc:TypeId×Value→H} {P:Program} {w:World} {base:Nat} {sp:Nat→Bool} {held:Bool}
abbrev Old (w:World):Nat→Prop:=fun b=>b<w.heap.size
structure Reads (w:World) (off:Nat) (cs:List Value) (shs:List Sh) (xs:List V):Prop where
 has:Sh.hasL shs xs
 rd:∀(i:Nat) (x:V),xs[i]?=some x→Rd (Old w) w (cs.getD (off+i) undef) x
 sc:∀x∈xs,x.one=true∧x.sc=true
theorem e3u {k:IntKind} {n:Int} (h:(Lit.int k n).wf=true):rng k n:=by
 rw [←a1q]
 simpa [Lit.wf,inR] using h
theorem c2k {a:Addr} {len cap k:Nat} {b:Bool} {shs:List Sh} (hk:0<k) (hks:shs.length=k) (hb:b=true∨k=1) (hl:len≤cap) (hm:cap≤maxLen)
  (h:∀i,i<len→∃cs xs,w.cells? base (a.add (i*k)) k=some cs∧Reads w 0 cs shs xs):∃ys,ys.length=len∧Sh.has (.sl b shs) (.sl ys)∧Rd (Old w) w (.slice (some a) len cap) (.sl ys):=by
 by_cases h0:len=0
 ·subst h0
  exact ⟨[],rfl,⟨[],rfl,fun y hy=>by cases hy⟩,.slz a cap⟩
 obtain ⟨cs0,xs0,hc0,_⟩:=h 0 (by omega)
 obtain ⟨_,_,hcell0⟩:=World.cells?_some hc0
 have hsz:=World.cells?_block hc0 hk
 rw [show (a.add (0*k)).block=a.block from by simp [Addr.add]] at hsz
 have hblk:∃cur e fz,w.heap[a.block]?=some (.cells cur e fz)∧a.spot=none:=by
  have:=hcell0 0 hk
  have hlen:=(World.cells?_some hc0).2.1
  have hs:cs0[0]?=some cs0[0]:=zJ (by omega)
  rw [hs] at this
  have e0:(a.add (0*k)).add 0=a:=by simp [Addr.add]
  rw [e0] at this
  unfold World.cell? at this
  split at this
  ·rename_i cur e fz hh
   refine ⟨cur,e,fz,hh,?_⟩
   split at this
   ·cases this
   ·rename_i hsp;simpa using hsp
  ·cases this
 obtain ⟨cur,e,fz,hh,hspot⟩:=hblk
 obtain ⟨bl,o,spot⟩:=a
 simp only at hh hspot hsz
 subst hspot
 have sp':∀i,∃y:V,i<len→∃cs xs,w.cells? base ((⟨bl,o,none⟩:Addr).add (i*k)) k=some cs∧Reads w 0 cs shs xs∧y.cells=xs∧(bif b then y=.agg xs else xs=[y]):=by
  intro i
  by_cases hi:i<len
  ·obtain ⟨cs,xs,h1,h2⟩:=h i hi
   have hl:=a5r h2.has
   cases b with
   | true=>exact ⟨.agg xs,fun _=>⟨cs,xs,h1,h2,rfl,rfl⟩⟩
   | false =>
    have hk1:k=1:=by
     rcases hb with hb|hb
     ·cases hb
     ·exact hb
    match xs,h2,hl with
    | [x],h2,_ =>
     have:=(h2.sc x (by simp)).1
     refine ⟨x,fun _=>⟨cs,[x],h1,h2,?_,rfl⟩⟩
     cases x<;>first|rfl|simp [V.one] at this
    | [],_,hl=>simp at hl;omega
    | _::_::_,_,hl=>simp at hl;omega
  ·exact ⟨.any,fun h=>absurd h hi⟩
 obtain ⟨pick,sp⟩:∃pick:Nat→V,∀i,i<len→∃cs xs,w.cells? base ((⟨bl,o,none⟩:Addr).add (i*k)) k=some cs∧Reads w 0 cs shs xs∧(pick i).cells=xs∧(bif b then pick i=.agg xs else xs=[pick i]) :=
  ⟨fun i=>(sp' i).choose,fun i=>(sp' i).choose_spec⟩
 have hcc:∀(i j:Nat) (x c:V),((List.range len).map pick)[i]?=some x→x.cells[j]?=some c→i<len∧j<k∧o+i*k+j<cur.size∧Rd (Old w) w (cur.getD (o+i*k+j) undef) c:=by
  intro i j x c hx hc
  rw [xQ] at hx
  have hi:i<len:=by
   cases hr:(List.range len)[i]? with
   | none=>rw [hr] at hx;cases hx
   | some z=>have:=(zG.1 hr).1;simpa using this
  rw [List.getElem?_range hi] at hx
  simp at hx;subst hx
  obtain ⟨cs,xs,h1,h2,h3,_⟩:=sp i hi
  rw [h3] at hc
  have hj:j<k:=by rw [←hks,←a5r h2.has];exact (zG.1 hc).1
  obtain ⟨_,hlen,hcell⟩:=World.cells?_some h1
  have:=hcell j hj
  have e1:((⟨bl,o,none⟩:Addr).add (i*k)).add j=⟨bl,o+i*k+j,none⟩:=by rw [Addr.add_lit,Addr.add_lit]
  rw [e1] at this
  have hs:cs[j]?=some cs[j]:=zJ (by omega)
  rw [hs] at this
  simp only [World.cell?,hh,Option.isSome_none,xL,if_false] at this
  have hlt:=(zF.1 this).1
  refine ⟨hi,hj,hlt,?_⟩
  have hr:=h2.rd j c hc
  rw [vA] at hr
  have e2:cs.getD j undef=cs[j]:=by simp [List.getD,hs]
  have e3:cur.getD (o+i*k+j) undef=cs[j]:=by simp [zC,this]
  rw [e2] at hr
  rw [e3];exact hr
 have hmem:∀y∈(List.range len).map pick,∃i,i<len∧y=pick i:=by
  intro y hy
  obtain ⟨i,hi,rfl⟩:=vE.1 hy
  exact ⟨i,by simpa using hi,rfl⟩
 refine ⟨(List.range len).map pick,by simp,⟨_,rfl,fun y hy=>?_⟩,.sl bl o len cap k cur e fz _ hsz hh (by simp) (by omega) hl (.inr ?_) (fun y hy=>?_) fun i j x c hx hc=>(hcc i j x c hx hc).2.2.2⟩
 ·obtain ⟨i,hi,rfl⟩:=hmem y hy
  obtain ⟨cs,xs,h1,h2,h3,h4⟩:=sp i hi
  cases b with
  | true=>exact ⟨xs,h4,h2.has⟩
  | false=>simp only [vM] at h4 ⊢;rw [←h4];exact h2.has
 · -- the row is long enough
  obtain ⟨cs,xs,h1,h2,h3,_⟩:=sp (len - 1) (by omega)
  have hxl:=a5r h2.has
  have hlast:(pick (len - 1)).cells[k - 1]?=some ((pick (len - 1)).cells[k - 1]'(by rw [h3,hxl,hks];omega)):=zJ _
  have:=hcc (len - 1) (k - 1) (pick (len - 1)) _ (by rw [xQ,List.getElem?_range (by omega)];rfl) hlast
  have e1:(len - 1)*k+k=len*k:=by
   rw [←Nat.succ_mul];congr 1;omega
  omega
 ·obtain ⟨i,hi,rfl⟩:=hmem y hy
  obtain ⟨cs,xs,h1,h2,h3,h4⟩:=sp i hi
  refine ⟨by rw [h3,a5r h2.has,hks],fun c hc=>(h2.sc c (by rw [←h3];exact hc)).1,?_⟩
  cases b with
  | true=>simp only [vO] at h4;rw [h4];simp only [V.sealed,wD];exact fun c hc=>(h2.sc c hc).2
  | false =>
   simp only [vM] at h4
   have:=(h2.sc (pick i) (by rw [h4];simp))
   have hs:=this.2
   generalize pick i=z at hs this
   cases z<;>first|exact hs|simp [V.one] at this
def d4q (H:Type) (enc:TypeId×Value→H) (P:Program) (w:World) (base:Nat) (sp:Nat→Bool) (held:Bool) (ρ:TypeId→Option (V→Prop)) (F:Nat):Prop :=
 ∀t R,ρ t=some R→∀fuel,fuel≤F→∀(e:TypeId) (cs:List Value) (x:DataW H×List MemPlace),P.underlying t=some (.slice e)→DataW.trod enc P w base sp held fuel t cs=some x→∃y,Reads w 0 cs [.rk R] [y]∧cs.length=1
theorem c0k {ρ:TypeId→Option (V→Prop)} {F:Nat} (hρ:d4q H enc P w base sp held ρ F):∀(n:Nat),(∀(fuel:Nat),fuel≤F→∀(t:TypeId) (cs:List Value) (x:DataW H×List MemPlace) (b:Bool) (shs:List Sh),shT P ρ n t=some (b,shs)→DataW.trod enc P w base sp held fuel t cs=some x→∃xs,Reads w 0 cs shs xs∧cs.length=shs.length) ∧
  (∀(fuel:Nat),fuel≤F→∀(off:Nat) (fs:List Field) (cs:List Value) (shs:List Sh),e1z P ρ n off fs=some shs→(∀f∈fs,∃x,DataW.trod enc P w base sp held fuel f.type ((cs.drop f.offset).take (P.cellsOf f.type))=some x)→∃xs,Reads w off cs shs xs)
 | 0=>⟨fun _ _ _ _ _ _ _ h=>by simp [shT] at h,fun _ _ _ _ _ _ h=>by simp [e1z] at h⟩
 | n + 1 => by
  obtain ⟨ih1,ih2⟩:=c0k hρ n
  refine ⟨fun fuel hF t cs x b shs h ht=>?_,fun fuel hF off fs cs shs h ht=>?_⟩
  ·simp only [shT] at h
   split at h
   ·rename_i hu
    cases h
    obtain ⟨v,rfl,rfl⟩:=DataW.trod_bool hu ht
    exact ⟨[.bool v],⟨⟨⟨v,rfl⟩,trivial⟩,fun i x hx=>(by cases i<;>simp at hx;subst hx;exact .bool v),fun x hx=>by simp at hx;subst hx;exact ⟨rfl,rfl⟩⟩,rfl⟩
   ·rename_i k hu
    cases h
    obtain ⟨v,rfl,rfl,hw⟩:=DataW.trod_int hu ht
    have hr:=e3u hw
    exact ⟨[.int k v],⟨⟨⟨v,rfl,hr⟩,trivial⟩,fun i x hx=>(by cases i<;>simp at hx;subst hx;exact .int k v (a1q.2 hr)),fun x hx=>by simp at hx;subst hx;exact ⟨rfl,rfl⟩⟩,rfl⟩
   ·rename_i hu
    cases h
    obtain ⟨s,rfl,rfl,hs⟩:=DataW.trod_string hu ht
    exact ⟨[.str s.data.toList],⟨⟨⟨_,rfl⟩,trivial⟩,fun i x hx=>(by cases i<;>simp at hx;subst hx;exact .str s hs),fun x hx=>by simp at hx;subst hx;exact ⟨rfl,rfl⟩⟩,rfl⟩
   ·rename_i e hu
    split at h
    ·rename_i R hR
     cases h
     obtain ⟨y,h1,h2⟩:=hρ t R hR fuel hF e cs x hu ht
     exact ⟨[y],h1,h2⟩
    split at h
    ·rename_i b' cs' he
     cases hc:(Nat.beq (P.cellsOf e) cs'.length&&Nat.blt 0 cs'.length&&(b'||Nat.beq cs'.length 1)) with
     | false=>rw [hc] at h;cases h
     | true =>
      rw [hc] at h;cases h
      simp only [wE,wR] at hc
      have hce:=zR hc.1.1
      have hpos:0<cs'.length:=by have:=hc.1.2;simp [Nat.blt] at this;omega
      rcases DataW.trod_slice hu ht with ⟨rfl,_⟩|⟨a,len,cap,elems,rest,m,hfm,rfl,_,_,hl,hm,hel,hall,_⟩
      ·exact ⟨[.sl []],⟨⟨⟨[],rfl,fun y hy=>by cases hy⟩,trivial⟩,fun i x hx=>(by cases i<;>simp at hx;subst hx;exact .nilsl),fun x hx=>by simp at hx;subst hx;exact ⟨rfl,rfl⟩⟩,rfl⟩
      ·obtain ⟨ys,_,h1,h2⟩:=c2k (w:=w) (base:=base) (a:=a) (len:=len) (cap:=cap) (k:=P.cellsOf e) (b:=b') (shs:=cs') (by omega) hce.symm (by rcases hc.2 with h|h;exact .inl h;exact .inr (by rw [hce];exact zR h)) hl hm (fun i hi=>by
        have:=hall i hi
        have hs:elems[i]?=some elems[i]:=zJ (by omega)
        rw [hs] at this
        obtain ⟨cs,h3,h4⟩:=zL.1 this
        obtain ⟨xs,h5,_⟩:=ih1 _ (by omega) _ _ _ _ _ he h4
        exact ⟨cs,xs,h3,h5⟩)
       exact ⟨[.sl ys],⟨⟨h1,trivial⟩,fun i x hx=>(by cases i<;>simp at hx;subst hx;exact h2),fun x hx=>by simp at hx;subst hx;exact ⟨rfl,rfl⟩⟩,rfl⟩
    ·cases h
   ·rename_i fs hu
    split at h
    ·rename_i cs' hf
     cases hc:Nat.beq (P.cellsOf t) cs'.length with
     | false=>rw [hc] at h;cases h
     | true =>
      rw [hc] at h
      simp only [vO,xO,Prod.mk.injEq] at h
      obtain ⟨_,rfl⟩:=h
      obtain ⟨xs,m,hfu,_,hl,hxl,hall⟩:=DataW.trod_struct hu ht
      obtain ⟨ys,hy⟩:=ih2 m (by omega) 0 fs.toList cs cs' hf (fun f hfm=>by
       obtain ⟨i,hi⟩:=zT.1 hfm
       have hi':fs[i]?=some f:=by simpa using hi
       have:=hall i f hi'
       have hlt:i<xs.length:=by rw [hxl];exact (zF.1 hi').1
       rw [zJ hlt] at this
       exact ⟨_,this⟩)
      exact ⟨ys,hy,by rw [hl];exact zR hc⟩
    ·cases h
   ·cases h
  ·cases fs with
   | nil=>simp [e1z] at h;subst h;exact ⟨[],trivial,fun i x hx=>by simp at hx,fun x hx=>by cases hx⟩
   | cons f r =>
    simp only [e1z] at h
    split at h
    ·rename_i b' cs' he
     cases hc:(Nat.beq f.offset off&&Nat.beq (P.cellsOf f.type) cs'.length) with
     | false=>rw [hc] at h;cases h
     | true =>
      rw [hc] at h
      simp only [vO] at h
      simp only [wE] at hc
      have ho:=zR hc.1
      have hce:=zR hc.2
      split at h
      ·rename_i q hq
       cases h
       obtain ⟨x,hx⟩:=ht f (by simp)
       obtain ⟨xs,h1,hxl⟩:=ih1 _ hF _ _ _ _ _ he hx
       obtain ⟨ys,h2⟩:=ih2 fuel hF _ r cs q hq fun f' hf'=>ht f' (by simp [hf'])
       have hlx:=a5r h1.has
       refine ⟨xs++ys,b4n h1.has h2.has,fun i z hz=>?_,fun z hz=>?_⟩
       ·by_cases hi:i<xs.length
        ·rw [zH hi] at hz
         have:=h1.rd i z hz
         rw [vA] at this
         have e1:((cs.drop f.offset).take (P.cellsOf f.type)).getD i undef=cs.getD (off+i) undef:=by
          have hi':i<P.cellsOf f.type:=by omega
          simp [List.getD,xI,hi',ho]
         rw [e1] at this;exact this
        ·rw [zD (by omega)] at hz
         have:=h2.rd (i - xs.length) z hz
         rw [←hlx] at this
         rw [show off+i=off+xs.length+(i - xs.length) by omega]
         exact this
       ·rcases wL.1 hz with hz|hz
        ·exact h1.sc z hz
        ·exact h2.sc z hz
      ·cases h
    ·cases h
def f2y (P:Program) (ρ:TypeId→Option (V→Prop)) (n:Nat) (t:TypeId) (R:V→Prop):Prop :=
 ∃e b cs,P.underlying t=some (.slice e)∧shT P ρ n e=some (b,cs)∧(Nat.beq (P.cellsOf e) cs.length&&Nat.blt 0 cs.length&&(b||Nat.beq cs.length 1))=true ∧
  ∀ys:List V,ys.length≤maxLen→(∀y∈ys,bif b then ∃zs,y=.agg zs∧Sh.hasL cs zs else Sh.hasL cs [y])→R (.sl ys)
theorem d54 {ρ:TypeId→Option (V→Prop)} {n:Nat} (hR:∀t R,ρ t=some R→f2y P ρ n t R):∀F,d4q H enc P w base sp held ρ F
 | 0=>fun t R hr fuel hF e cs x hu ht=>by
  have:fuel=0:=by omega
  subst this
  simp [DataW.trod] at ht
 | F+1=>fun t R hr fuel hF e cs x hu ht=>by
  have ih:=d54 hR F
  obtain ⟨e',b',cs',hu',he,hc,hall'⟩:=hR t R hr
  rw [hu] at hu'
  cases hu'
  simp only [wE,wR] at hc
  have hce:=zR hc.1.1
  have hpos:0<cs'.length:=by have:=hc.1.2;simp [Nat.blt] at this;omega
  rcases DataW.trod_slice hu ht with ⟨rfl,_⟩|⟨a,len,cap,elems,rest,m,hfm,rfl,_,_,hl,hm,hel,hall,_⟩
  ·exact ⟨.sl [],⟨⟨hall' [] (vH _) (fun y hy=>by cases hy),trivial⟩,fun i x hx=>(by cases i<;>simp at hx;subst hx;exact .nilsl),fun x hx=>by simp at hx;subst hx;exact ⟨rfl,rfl⟩⟩,rfl⟩
  ·obtain ⟨ys,h0,⟨ys',e1,h1⟩,h2⟩:=c2k (w:=w) (base:=base) (a:=a) (len:=len) (cap:=cap) (k:=P.cellsOf e) (b:=b') (shs:=cs') (by omega) hce.symm (by rcases hc.2 with h|h;exact .inl h;exact .inr (by rw [hce];exact zR h)) hl hm (fun i hi=>by
    have:=hall i hi
    have hs:elems[i]?=some elems[i]:=zJ (by omega)
    rw [hs] at this
    obtain ⟨cs,h3,h4⟩:=zL.1 this
    obtain ⟨xs,h5,_⟩:=(c0k ih n).1 _ (by omega) _ _ _ _ _ he h4
    exact ⟨cs,xs,h3,h5⟩)
   cases e1
   exact ⟨.sl ys,⟨⟨hall' ys (by omega) h1,trivial⟩,fun i x hx=>(by cases i<;>simp at hx;subst hx;exact h2),fun x hx=>by simp at hx;subst hx;exact ⟨rfl,rfl⟩⟩,rfl⟩
end
end Go.Ab
namespace Go.Ab
open Go.RowKit Go.WideShapes
def d4j (s:Bool×List Sh) (x:V):Prop:=bif s.1 then ∃zs,x=.agg zs∧Sh.hasL s.2 zs else Sh.hasL s.2 [x]
def b59:List (Bool×List Sh)→List V→Prop
 | [],[]=>True
 | s::r,x::q=>d4j s x∧b59 r q
 | _,_=>False
section
variable {H:Type} {enc:TypeId×Value→H} {P:Program} {W:World} {base:Nat}
def gh0 (W:World):Gh:=⟨Old W,id,id,id,fun _=>False⟩
theorem b40 {v:Value} {b:Bool} {shs:List Sh} {xs:List V} (hc:v.cells=#[v]) (h:Reads W 0 v.cells.toList shs xs) (hl:v.cells.toList.length=shs.length):∃y,VR (gh0 W) W v y∧d4j (false,shs) y:=by
 have h1:xs.length=1:=by rw [a5r h.has,←hl,hc];rfl
 match xs,h1,h with
 | [y],_,h =>
  refine ⟨y,.rd ?_,h.has⟩
  have:=h.rd 0 y rfl
  rw [hc] at this
  exact (by simpa using this:Rd (Old W) W v y)
theorem d06 {ρ:TypeId→Option (V→Prop)} (hρ:∀F,d4q H enc P W 0 (fun _=>true) true ρ F) {n:Nat} {t:TypeId} {b:Bool} {shs:List Sh} {v:Value} {d:DataW H} {ps:List MemPlace} (hs:shT P ρ n t=some (b,shs)) (hv:Value.okWide P W .any base t v) (ht:DataW.Trod enc P W 0 (fun _=>true) true t v d ps) :
  ∃y,VR (gh0 W) W v y∧d4j (b,shs) y:=by
 obtain ⟨fuel,ht⟩:=ht
 obtain ⟨xs,h1,h2⟩:=(c0k (enc:=enc) (P:=P) (w:=W) (base:=0) (sp:=fun _=>true) (held:=true) (hρ fuel) n).1 fuel (vJ _) t _ _ _ _ hs ht
 cases n with
 | zero=>simp [shT] at hs
 | succ n =>
  simp only [shT] at hs
  split at hs
  ·rename_i hu
   cases hs
   obtain ⟨c,rfl⟩:=okWide_bool hu hv
   exact b40 (b:=false) rfl h1 h2
  ·rename_i k hu
   cases hs
   obtain ⟨c,rfl⟩:=okWide_int hu hv
   exact b40 (b:=false) rfl h1 h2
  ·rename_i hu
   cases hs
   obtain ⟨c,rfl⟩:=okWide_string hu hv
   exact b40 (b:=false) rfl h1 h2
  ·rename_i e hu
   split at hs
   ·cases hs
    obtain ⟨a,len,cap,rfl⟩:=okWide_slice hu hv
    exact b40 (b:=false) rfl h1 h2
   split at hs
   ·cases hc:(Nat.beq (P.cellsOf e) _&&Nat.blt 0 _&&(_||Nat.beq _ 1)) with
    | false=>rw [hc] at hs;cases hs
    | true =>
     rw [hc] at hs;cases hs
     obtain ⟨a,len,cap,rfl⟩:=okWide_slice hu hv
     exact b40 (b:=false) rfl h1 h2
   ·cases hs
  ·rename_i fs hu
   split at hs
   ·rename_i cs' hf
    cases hc:Nat.beq (P.cellsOf t) cs'.length with
    | false=>rw [hc] at hs;cases hs
    | true =>
     rw [hc] at hs
     simp only [vO,xO,Prod.mk.injEq] at hs
     obtain ⟨rfl,rfl⟩:=hs
     obtain ⟨cs,rfl,_⟩:=okWide_struct hu hv
     refine ⟨.agg xs,.rd (.agg cs xs ?_ fun i c hc=>?_),⟨xs,rfl,h1.has⟩⟩
     ·have:=a5r h1.has
      have h2':cs.size=cs'.length:=by simpa [Value.cells] using h2
      omega
     ·have:=h1.rd i c hc
      exact (by simpa [Value.cells,zC,List.getD] using this:Rd (Old W) W (cs.getD i undef) c)
   ·cases hs
  ·cases hs
theorem b6v {ρ:TypeId→Option (V→Prop)} (hρ:∀F,d4q H enc P W 0 (fun _=>true) true ρ F) {n:Nat}:∀{ts:List TypeId} {shs:List (Bool×List Sh)} {vs:List Value} {ds:List (DataW H)} {ps:List MemPlace},ts.map (shT P ρ n)=shs.map some→(∀(j:Nat) t v,ts[j]?=some t→vs[j]?=some v→Value.okWide P W .any base t v) →
  DataW.TrodAll enc P W 0 (fun _=>true) true ts vs ds ps→∃ys,ys.length=vs.length∧b59 shs ys∧∀(i:Nat) (y:V),ys[i]?=some y→VR (gh0 W) W (vs.getD i undef) y
 | [],shs,[],[],ps,hs,_,_=>by
  cases shs with
  | nil=>exact ⟨[],rfl,trivial,fun i y h=>by simp at h⟩
  | cons _ _=>simp at hs
 | t::ts,shs,v::vs,d::ds,ps,hs,hv,h=>by
  cases shs with
  | nil=>simp at hs
  | cons s shs =>
   simp only [wZ,wP] at hs
   obtain ⟨p,q,h1,h2,_⟩:=h
   obtain ⟨b,sh⟩:=s
   obtain ⟨y,k1,k2⟩:=d06 hρ hs.1 (hv 0 t v rfl rfl) h1
   obtain ⟨ys,k3,k4,k5⟩:=b6v hρ hs.2 (fun j t v h1 h2=>hv (j+1) t v (by simpa using h1) (by simpa using h2)) h2
   refine ⟨y::ys,by simp [k3],⟨k2,k4⟩,fun i z hz=>?_⟩
   cases i with
   | zero=>simp at hz;subst hz;simpa using k1
   | succ i=>simp at hz;simpa using k5 i z hz
 | [],_,_::_,_,_,_,_,h=>h.elim
 | [],_,[],_::_,_,_,_,h=>h.elim
 | _::_,_,[],_,_,_,_,h=>h.elim
 | _::_,_,_::_,[],_,_,_,h=>h.elim
theorem b3n {w:World} {sp:Nat→Bool} {held:Bool}:∀{ts:List TypeId} {vs:List Value} {ds:List (DataW H)} {ps:List MemPlace},DataW.TrodAll enc P w base sp held ts vs ds ps→ds.length=ts.length∧vs.length=ts.length
 | [],[],[],_,_=>⟨rfl,rfl⟩
 | t::ts,v::vs,d::ds,ps,h=>by
  obtain ⟨p,q,_,h2,_⟩:=h
  have:=b3n h2
  simp [this.1,this.2]
 | [],_::_,_,_,h=>h.elim
 | [],[],_::_,_,h=>h.elim
 | _::_,[],_,_,h=>h.elim
 | _::_,_::_,[],_,h=>h.elim
theorem a9n {W':World} {sp:Nat→Bool} (hl:laidOutB P=true):∀{ts:List TypeId} {vs:List Value} {ds:List (DataW H)} {ps:List MemPlace},(∀t∈ts,P.readableRec t=true∧t<P.types.size)→(∀p∈ps,W.sameAt W' p∧sp p.block=true) →
  DataW.TrodAll enc P W base (fun _=>true) true ts vs ds ps→DataW.TrodAll enc P W' base sp true ts vs ds ps
 | [],[],[],_,_,_,h=>h
 | t::ts,v::vs,d::ds,ps,ht,hp,h=>by
  obtain ⟨p,q,h1,h2,rfl⟩:=h
  exact ⟨p,q,WideElems.Trod_stays hl (ht t (by simp)).1 (ht t (by simp)).2 h1 (fun x hx=>(hp x (by simp [hx])).1) (fun x hx=>(hp x (by simp [hx])).2),
   a9n hl (fun t' h'=>ht t' (by simp [h'])) (fun x hx=>hp x (by simp [hx])) h2,rfl⟩
 | [],_::_,_,_,_,_,h=>h.elim
 | [],[],_::_,_,_,_,h=>h.elim
 | _::_,[],_,_,_,_,h=>h.elim
 | _::_,_::_,[],_,_,_,h=>h.elim
theorem c8e {ρ:TypeId→Option (V→Prop)} {nr:Nat} (hR:∀t R,ρ t=some R→f2y P ρ nr t R) {f:Nat} {fn:Func} {s:ChangeSpec} {n:Nat} {shs:List (Bool×List Sh)} {tb:TypeId} (hl:laidOutB P=true) (hrd:∀t∈fn.params.toList,P.readableRec t=true∧t<P.types.size) (hsh:fn.params.toList.map (shT P ρ n)=shs.map some)
  (hrt:fn.resultTypes=#[tb]) (hb:P.underlying tb=some .bool) (hvars:s.vars=[]) (hfn:∀ds:List (DataW H),ds.length=fn.params.size→s.fn H ds={ results:=[.lit (.bool true)],args:=ds })
  (hcall:∀ys,b59 shs ys→a0s P f ys [] (fun r H=>r=.bool true∧H=[]))
  {args:Array Value} {ds gs:List (DataW H)} {before:List MemPlace} (hval:∀(j:Nat) t v,fn.params[j]?=some t→args[j]?=some v→Value.okWide P W .any base t v)
  (hW:DataW.Whole enc P fn.params.toList s.vars false W args.toList ds gs before) (htabs:f7f P W) :
  Calls P f args W fun e W'=>∃v,e=.returned v∧s.post enc P fn false true false false W args v W':=by
 have hW0:=hW
 obtain ⟨p,q,hA,hV,rfl,hfz,_⟩:=hW
 rw [hvars] at hV
 have hgs:gs=[]∧q=[]:=by
  cases gs with
  | nil=>exact ⟨rfl,hV⟩
  | cons _ _=>exact hV.elim
 obtain ⟨rfl,rfl⟩:=hgs
 obtain ⟨ys,k1,k2,k3⟩:=b6v (base:=base) (d54 hR) hsh (fun j t v h1 h2=>hval j t v (by simpa using h1) (by simpa using h2)) hA
 have hkeep:∀{w':World},a2e (Old W) W w'→f7f P w':=by
  intro w' hk
  have key:∀(n:String) (cs:Array Value),World.var? P W n=some cs→World.var? P w' n=some cs:=fun n cs h=>by
   unfold World.var? at h ⊢
   cases hgn:P.globalNamed n with
   | none=>rw [hgn] at h;cases h
   | some g =>
    rw [hgn] at h
    simp only [xX] at h ⊢
    have hlt:g<W.heap.size:=by
     cases hh:W.heap[g]? with
     | none=>rw [hh] at h;cases h
     | some o=>exact (zF.1 hh).1
    rw [hk g hlt];exact h
  exact ⟨fun d hd hg=>key _ _ (htabs.1 d hd hg),fun n hn hg=>by
   obtain ⟨tp,p,h⟩:=htabs.2 n hn hg
   exact ⟨tp,p,key _ _ h⟩⟩
 have hH:a3p P (gh0 W) W []:=⟨fun id o h=>(by cases h),fun i j o o' h=>(by cases h),fun id o h=>(by cases h),fun b h=>h,fun w' hk=>hkeep hk⟩
 refine ((hcall ys k2).2 (gh0 W) W args hH (by rw [k1];simp) fun i x hx=>?_).mono ?_
 ·have:=k3 i x hx
  simpa [zC,List.getD] using this
 ·rintro e W' ⟨v,r,H',g',rfl,⟨rfl,rfl⟩,_,hv,hf,_⟩
  have hold:∀b,b<W.heap.size→W'.heap[b]?=W.heap[b]?:=fun b hb=>hf.old b hb fun ⟨id,o,h,_⟩=>by cases h
  have hvt:=hv.bool_inv
  subst hvt
  obtain ⟨hdl,hvl⟩:=b3n hA
  have hlt:∀x∈p++[],x.block<W.heap.size:=fun x hx=>hW0.lt x hx
  have hfnds:=hfn ds (by rw [hdl];simp)
  refine ⟨_,rfl,ds,[],p++[],[],p,[],hW0,?_,?_,?_,?_,fun h=>by cases h⟩
  ·rw [wQ,hfnds,hrt]
   exact ⟨[],[],⟨1,by simp [DataW.trod,hb,Value.cells]⟩,rfl,rfl⟩
  ·rw [wQ,hfnds]
   refine a9n hl hrd (fun x hx=>⟨?_,by simpa using hlt x (by simp [hx])⟩) hA
   have:=hold x.block (hlt x (by simp [hx]))
   cases x with
   | cell b off=>simp only [MemPlace.block] at this;simp [World.sameAt,World.cell?,this]
   | map b=>exact this
  ·rw [hvars,wQ,hfnds];rfl
  ·refine ⟨hf.os,hf.output,fun i hi=>?_⟩
   rw [hold i hi]
   cases W.heap[i]? with
   | none=>rfl
   | some o=>cases o<;>first|rfl|exact ⟨rfl,rfl,rfl,fun _ _=>rfl⟩|exact .inr ⟨rfl,rfl⟩
theorem c3d {name:String} {d:DataW Unit}:∀{l:List (String×DataW Unit)} {ps:List MemPlace},DataW.LaidVars P W l ps→(name,d)∈l →
  ∃g t cs fuel p,P.globalNamed name=some g∧(P.globals[g]?).map (·.type)=some t∧W.var? P name=some cs∧DataW.trod (fun _=>()) P W 0 (fun _=>true) false fuel t cs.toList=some (d,p)
 | (n,d')::r,ps,h,hm=>by
  obtain ⟨g,t,cs,fuel,p,q,h1,h2,h3,h4,h5,_⟩:=h
  rcases wY.1 hm with e|hm
  ·cases e;exact ⟨g,t,cs,fuel,p,h1,h2,h3,h4⟩
  ·exact c3d h5 hm
theorem b60 {name:String} {k:IntKind} {zs:List Int} {l:List (String×DataW Unit)} {g:Nat} {t e:TypeId} {n:Nat} (hm:(name,Lib.tabData k zs)∈l)
  (hg:P.globalNamed name=some g) (hty:(P.globals[g]?).map (·.type)=some t) (ht:P.underlying t=some (.array n e)) (he:P.underlying e=some (.int k)) (hce:P.cellsOf e=1) (hct:P.cellsOf t=n) (h:laidMet P l W):Lib.TabIs P W name k zs:=by
 obtain ⟨ps,hl,_⟩:=h
 obtain ⟨g',t',cs,fuel,p,hg',ht',hvar,hd⟩:=c3d hl hm
 obtain rfl:=wH (hg.symm.trans hg')
 obtain rfl:=wH (hty.symm.trans ht')
 unfold Lib.TabIs
 rw [hvar,←Lib.cells_of_tab ht he hce hct hd]
theorem b7z {n nm:String} {text:List UInt8} {g:Nat} {ti tp te ts:TypeId} {ms:Array (String×TypeId)} {f:Field}
  (hg:P.globalNamed n=some g) (ht:(P.globals[g]?).map (·.type)=some ti) (hi:P.underlying ti=some (.interface ms)) (hrow:∀u,P.typeName? 3 u=some nm→u=tp)
  (hp:P.underlying tp=some (.pointer te)) (he:P.underlying te=some (.struct #[f])) (hft:f.type=ts) (hfo:f.offset=0) (hs:P.underlying ts=some .string) (hc:P.cellsOf te=1) (hcs:P.cellsOf ts=1) :
  ∀{l:List (String×DataW Unit)} (k:Nat),l[k]?=some (n,.iface nm (.ptr (.agg [.lit (.string text)])))→laidMet P l W→∃tp p,World.var? P W n=some #[.iface tp p]
 | [],_,e,_=>by cases e
 | x::r,0,e,h=>by
  obtain rfl:=wH e
  obtain ⟨a,s,hv,_⟩:=laid_sentinel h hg ht hi hrow hp he hft hfo hs hc hcs
  exact ⟨tp,_,hv⟩
 | x::r,k+1,e,h=>b7z hg ht hi hrow hp he hft hfo hs hc hcs (l:=r) k (by simpa using e) h.tail
theorem d59 {α:Type} {f:α→V}:∀{ys:List V},(∀y∈ys,∃a,y=f a)→∃l:List α,ys=l.map f
 | [],_=>⟨[],rfl⟩
 | y::r,h=>by
  obtain ⟨a,rfl⟩:=h y (by simp)
  obtain ⟨l,rfl⟩:=d59 (ys:=r) fun z hz=>h z (by simp [hz])
  exact ⟨a::l,rfl⟩
theorem c26 {s:Bool×List Sh} {r:List (Bool×List Sh)} {ys:List V} (h:b59 (s::r) ys):∃x q,ys=x::q∧d4j s x∧b59 r q:=by
 cases ys with
 | nil=>exact h.elim
 | cons x q=>exact ⟨x,q,rfl,h.1,h.2⟩
theorem c5v {ys:List V} (h:b59 [] ys):ys=[]:=by
 cases ys with
 | nil=>rfl
 | cons x q=>exact h.elim
end
end Go.Ab
namespace Go.Ab
open Go.RowKit
section
variable {P:Program}
theorem b5b {f:Nat} {args:List V} {xs ys:List V} {r:V} (hc:callable P f=true) (he:∀x∈ys,x.cells.length=1∧(∀c∈x.cells,c.one=true)∧x.sealed=true) (hl:ys.length=xs.length)
  (h : ∀(g:Gh) w (vals:Array Value),a3p P g w [(1000,.arr 1 xs)]→vals.size=args.length→(∀(i:Nat) (x:V),args[i]?=some x→VR g w (vals.getD i undef) x) →
   Calls P f vals w fun en w'=>∃v,en=.returned v∧VR g w' v r∧w'.os=w.os∧w'.tape=w.tape∧w'.output=w.output∧w.heap.size≤w'.heap.size∧(∀b,b<w.heap.size→(b≠g.ρ 1000∨g.nil 1000)→w'.heap[b]?=w.heap[b]?) ∧
    (g.nil 1000→ys=[])∧(¬g.nil 1000→∀cur e fz,w.heap[g.ρ 1000]?=some (.cells cur e fz)→∃cur':Array Value,w'.heap[g.ρ 1000]?=some (.cells cur' e fz)∧cur'.size=cur.size ∧
     ∀(i:Nat) (x c:V),ys[i]?=some x→x.cells[0]?=some c→Rd g.S w' (cur'.getD (g.base 1000+i) undef) c)) :
  a0s P f args [(1000,.arr 1 xs)] (fun r' H'=>r'=r∧H'=[(1000,.arr 1 ys)]):=by
 refine a1l ⟨r,[],[(1000,.arr 1 ys)]⟩ hc fun g w vals hH hsz hv=>(h g w vals hH hsz hv).mono ?_
 rintro en w' ⟨v,rfl,hvr,h1,h2,h3,h4,h5,h6,h7⟩
 have hf:find 1000 [(1000,a0i.arr 1 xs)]=some (.arr 1 xs):=by simp [find]
 have hO:=hH.obj 1000 _ hf
 refine ⟨v,g,rfl,⟨h1,h2,h3,h4,fun b hb hb'=>h5 b hb ?_,fun _ h=>h,fun b hb=>.inl hb,fun b hb=>xE (hH.lt b hb) h4,fun id _=>Gh.agree.refl _ _,?_,?_,?_,?_⟩,?_,hvr⟩
 ·by_cases hn:g.nil 1000
  ·exact .inr hn
  ·exact .inl fun e=>hb' 1000 _ (by simp [Eff.ids]) hf hn e.symm
 ·intro id o ho
  simp at ho
  obtain ⟨rfl,rfl⟩:=ho
  rcases hO with ⟨hn,_⟩|⟨hn,ha⟩
  ·exact .inl ⟨hn,h6 hn⟩
  ·obtain ⟨cur,e,fz,k1,k2,k3,k4⟩:=ha.row
   obtain ⟨cur',q1,q2,q3⟩:=h7 hn cur e fz k1
   refine .inr ⟨hn,⟨ha.kpos,⟨cur',e,fz,q1,by rw [q2];exact k2,by rw [q2];exact k3,fun i j x c hi hj=>?_⟩,by rw [hl];exact ha.len,ha.big,he⟩⟩
   have hx:=he x (z6 hi)
   have hj0:j=0:=by
    have:=(zG.1 hj).1
    omega
   subst hj0
   simpa using q3 i x c hi hj
 ·intro id o ho hn
  simp at ho
  obtain ⟨rfl,rfl⟩:=ho
  exact .inr ⟨_,_,by simp [Eff.ids],hf,hn,rfl⟩
 ·intro i j o o' hi hj
  simp at hi hj
  intro _ _ _
  rw [hi.1,hj.1]
 ·intro id o ho hn hS
  simp at ho
  obtain ⟨rfl,rfl⟩:=ho
  exact hH.sep _ _ hf hn hS
 ·intro id o ho
  exact .inl (Gh.agree.refl _ _)
theorem b93 {zs:List Int}:∀x∈zs.map (V.int .i64),x.cells.length=1∧(∀c∈x.cells,c.one=true)∧x.sealed=true:=by
 intro x hx
 obtain ⟨z,_,rfl⟩:=vE.1 hx
 exact ⟨rfl,fun c hc=>by simp [V.cells] at hc;subst hc;rfl,rfl⟩
theorem c2u {g:Gh} {w:World} {xs:List Int} (hO:OR g w 1000 (.arr 1 (xs.map (V.int .i64)))) (hn:¬g.nil 1000) :
  ∃(cur:Array Value) (e:TypeId) (fz:Nat×Nat),w.heap[g.ρ 1000]?=some (.cells cur e fz)∧g.base 1000+xs.length≤cur.size∧a3s fz cur.size∧(∀j,j<xs.length→cur[g.base 1000+j]?=some (.int .i64 (xs.getD j 0)))∧∀x∈xs,inR .i64 x:=by
 rcases hO with ⟨h,_⟩|⟨_,ha⟩
 ·exact absurd h hn
 obtain ⟨cur,e,fz,k1,k2,k3,k4⟩:=ha.row
 have hlen:g.base 1000+xs.length≤cur.size:=by
  have:=ha.len
  simp at this
  rw [k2];omega
 have hrd:∀j,(hj:j<xs.length)→cur.getD (g.base 1000+j) undef=.int .i64 xs[j]∧inR .i64 xs[j]:=fun j hj=>by
  have:=k4 j 0 (.int .i64 xs[j]) (.int .i64 xs[j]) (by simp [hj]) rfl
  have h2:Rd g.S w (cur.getD (g.base 1000+j) undef) (.int .i64 xs[j]):=by simpa using this
  exact (VR.rd (g:=g) h2).int_inv
 refine ⟨cur,e,fz,k1,hlen,k3.1,fun j hj=>?_,fun x hx=>?_⟩
 ·have:=(hrd j hj).1
  have hlt:g.base 1000+j<cur.size:=by omega
  rw [zC,zI hlt] at this
  rw [zI hlt]
  simp at this
  simp [this,hj]
 ·obtain ⟨j,hj,rfl⟩:=List.getElem_of_mem hx
  exact (hrd j hj).2
open Go.Shelf in
theorem c2d {f:Nat} (hc:callable P f=true)
  (h1:∀(blk off cap:Nat) (zs:List Int) (w:World),Go.Sort.Holds (Value.int .i64) w blk off zs.toArray→blk<w.heap.size→zs.length<4611686018427387904 →
   Calls P f #[.slice (some ⟨blk,off,none⟩) zs.length cap] w fun e w'=>e=.returned (.tuple #[])∧∃n os,w'=Go.Sort.grow (Go.Sort.putRow (Value.int .i64) (Go.Sort.ahead w n) blk off (zs.mergeSort fun x y=>decide (x≤y)).toArray) os)
  (h2:∀(p:Option Addr) (cap:Nat) (w:World),Calls P f #[.slice p 0 cap] w fun e w'=>e=.returned (.tuple #[])∧w'=w) (xs:List Int) (hb:xs.length<4611686018427387904) :
  a0s P f [.osl 1000 1 0 xs.length] [(1000,.arr 1 (xs.map (V.int .i64)))] (fun r H'=>r=.tup []∧H'=[(1000,.arr 1 ((xs.mergeSort fun x y=>decide (x≤y)).map (V.int .i64)))]):=by
 refine b5b hc b93 (by simp) fun g w vals hH hsz hv=>?_
 have hf:find 1000 [(1000,a0i.arr 1 (xs.map (V.int .i64)))]=some (.arr 1 (xs.map (V.int .i64))):=by simp [find]
 have hO:=hH.obj 1000 _ hf
 have hv0:=hv 0 _ rfl
 have hval:vals=#[vals.getD 0 undef]:=by
  have:vals.size=1:=hsz
  apply Array.ext
  ·simp [this]
  ·intro i h1 h2
   have:i=0:=by omega
   subst this
   simp only [List.getElem_toArray,List.getElem_cons_zero]
   rw [zC,zI h1,xW]
 rw [hval]
 by_cases h0:xs=[]
 ·subst h0
  have:∃p cap,vals.getD 0 undef=.slice p 0 cap:=by
   rcases hv0.osl_inv with ⟨_,e,_⟩|⟨_,o,c,e,_⟩
   ·exact ⟨none,0,e⟩
   ·exact ⟨_,c,e⟩
  obtain ⟨p,cap,e⟩:=this
  rw [e]
  refine (h2 p cap w).mono ?_
  rintro en w' ⟨rfl,rfl⟩
  refine ⟨_,rfl,.tup _ _ rfl fun i x hx=>by simp at hx,rfl,rfl,rfl,vJ _,fun _ _ _=>rfl,fun _=>by simp,fun hn cur e fz hh=>⟨cur,hh,rfl,fun i x c hi=>by simp at hi⟩⟩
 ·have hlen:0<xs.length:=List.length_pos_iff.2 h0
  rcases hv0.osl_inv with ⟨_,_,e⟩|⟨hn,o,cc,ev,ho,_,hlc,_⟩
  ·omega
  have ho':o=g.base 1000:=by
   rcases ho with h|h
   ·omega
   ·simpa using h
  subst ho'
  rw [ev]
  obtain ⟨cur,e,fz,k1,k2,k3,k4,k5⟩:=c2u hO hn
  have hHo:Go.Sort.Holds (Value.int .i64) w (g.ρ 1000) (g.base 1000) xs.toArray:=fun j hj=>by
   have hj':j<xs.length:=by simpa using hj
   refine ⟨?_,?_⟩
   ·simp only [World.cell?,k1]
    rw [k4 j hj']
    simp [hj']
   ·simp only [World.frozen?,k1]
    exact k3.at (by omega)
  refine (h1 _ _ cc xs w hHo (hO.block hn) hb).mono ?_
  rintro en w' ⟨rfl,n,os,rfl⟩
  have hblk:=hO.block hn
  refine ⟨_,rfl,.tup _ _ rfl fun i x hx=>by simp at hx,rfl,rfl,rfl,by simp [Go.Sort.grow,Go.Sort.ahead],fun b hb hne=>?_,fun h=>absurd h hn,fun _ cur0 e0 fz0 hh=>?_⟩
  ·have hne':b≠g.ρ 1000:=hne.resolve_right hn
   rw [Go.Sort.heap_grow_old _ _ (by simpa [Go.Sort.ahead] using hb)]
   simp [Go.Sort.putRow,Go.Sort.mapBlock,zX,hne'.symm,Go.Sort.ahead]
  ·rw [k1] at hh;cases hh
   refine ⟨Go.Sort.putCells (Value.int .i64) (g.base 1000) (xs.mergeSort fun x y=>decide (x≤y)).toArray cur,?_,by simp [Go.Sort.putCells],fun i x c hi hcx=>?_⟩
   ·rw [Go.Sort.heap_grow_old _ _ (by simpa [Go.Sort.ahead] using hblk)]
    simp [Go.Sort.putRow,Go.Sort.mapBlock,zX,Go.Sort.ahead,k1,Go.Sort.onCells]
   ·have hi':i<(xs.mergeSort fun x y=>decide (x≤y)).length:=by
     have:=(zG.1 hi).1
     simpa using this
    have hx:x=.int .i64 ((xs.mergeSort fun x y=>decide (x≤y))[i]):=by
     have:=(zG.1 hi).2
     simpa using this.symm
    subst hx
    simp [V.cells] at hcx
    subst hcx
    have hi2:i<xs.length:=by simpa using hi'
    have hlt:g.base 1000+i<cur.size:=by omega
    have hm:(xs.mergeSort fun x y=>decide (x≤y))[i]∈xs:=(List.mem_mergeSort).1 (wB hi')
    have:(Go.Sort.putCells (Value.int .i64) (g.base 1000) (xs.mergeSort fun x y=>decide (x≤y)).toArray cur).getD (g.base 1000+i) undef=.int .i64 ((xs.mergeSort fun x y=>decide (x≤y))[i]):=by
     rw [zC]
     simp [Go.Sort.putCells,Array.getElem?_mapIdx,hlt,hi',hi2]
    rw [this]
    exact .int _ _ (k5 _ hm)
theorem a8y {b:Nat} {e:TypeId} {fz:Nat×Nat}:∀(vs:List Value) (o:Nat) (w:World) (cur:Array Value),w.heap[b]?=some (.cells cur e fz)→o+vs.length≤cur.size →
  (w.setCells b o vs).os=w.os∧(w.setCells b o vs).tape=w.tape∧(w.setCells b o vs).output=w.output∧(w.setCells b o vs).heap.size=w.heap.size∧(∀k,k≠b→(w.setCells b o vs).heap[k]?=w.heap[k]?) ∧
  ∃cur':Array Value,(w.setCells b o vs).heap[b]?=some (.cells cur' e fz)∧cur'.size=cur.size∧(∀j v,vs[j]?=some v→cur'[o+j]?=some v)∧∀j,j<o→cur'[j]?=cur[j]?
 | [],o,w,cur,h,_=>⟨rfl,rfl,rfl,rfl,fun _ _=>rfl,cur,h,rfl,fun j v hv=>by simp at hv,fun _ _=>rfl⟩
 | v::vs,o,w,cur,h,hl=>by
  have hl':o+(vs.length+1)≤cur.size:=by simpa using hl
  have h1:(w.setCell ⟨b,o,none⟩ v).heap[b]?=some (.cells (cur.setIfInBounds o v) e fz):=by
   rw [Go.Sort.setCell_eq]
   simp [Go.Sort.mapBlock,zX,h,Go.Sort.onCells]
  obtain ⟨k1,k2,k3,k4,k5,cur',k6,k7,k8,k9⟩:=a8y vs (o+1) (w.setCell ⟨b,o,none⟩ v) _ h1 (by simp;omega)
  refine ⟨k1,k2,k3,k4.trans (by rw [Go.Sort.setCell_eq];simp [Go.Sort.mapBlock]),fun k hk=>(k5 k hk).trans (by rw [Go.Sort.setCell_eq];simp [Go.Sort.mapBlock,zX,Ne.symm hk]),cur',k6,by simpa using k7,fun j u hu=>?_,fun j hj=>?_⟩
  ·cases j with
   | zero =>
    simp at hu;subst hu
    rw [vD,k9 o (by omega)]
    have:o<cur.size:=by omega
    simp [this]
   | succ j =>
    have:=k8 j u (by simpa using hu)
    rw [←this];congr 1;omega
  ·rw [k9 j (by omega),zA (by omega)]
theorem b5y {f:Nat} (hc:callable P f=true)
  (h1:∀(b off n c:Nat) (zs:List Int) (w:World),n≤zs.length→n≤9223372036854775807→n≤c→(∀j,j<zs.length→w.cell? ⟨b,off+j,none⟩=some (.int .i64 (zs.getD j 0)))→(∀j,j<n→w.frozen? ⟨b,off+j,none⟩=false) →
   Calls P f #[.slice (some ⟨b,off,none⟩) n c] w fun e w'=>e=.returned (.slice (some ⟨b,off,none⟩) (Go.Lib.compact (zs.take n)).length c)∧∃q,w'=(w.drewN q).setCells b off ((Go.Lib.compact (zs.take n)++List.replicate (n - (Go.Lib.compact (zs.take n)).length) 0).map (Value.int .i64)))
  (h2:∀(p:Option Addr) (cap:Nat) (w:World),Calls P f #[.slice p 0 cap] w fun e w'=>e=.returned (.slice p 0 cap)∧w'=w) (xs:List Int)
  (hle:(Go.Lib.compact xs).length≤xs.length) (hmem:∀x∈Go.Lib.compact xs,x∈xs) :
  a0s P f [.osl 1000 1 0 xs.length] [(1000,.arr 1 (xs.map (V.int .i64)))] (fun r H'=>r=.osl 1000 1 0 (Go.Lib.compact xs).length ∧
   H'=[(1000,.arr 1 ((Go.Lib.compact xs++List.replicate (xs.length - (Go.Lib.compact xs).length) 0).map (V.int .i64)))]):=by
 refine b5b hc b93 (by simp;omega) fun g w vals hH hsz hv=>?_
 have hf:find 1000 [(1000,a0i.arr 1 (xs.map (V.int .i64)))]=some (.arr 1 (xs.map (V.int .i64))):=by simp [find]
 have hO:=hH.obj 1000 _ hf
 have hv0:=hv 0 _ rfl
 have hval:vals=#[vals.getD 0 undef]:=by
  have:vals.size=1:=hsz
  apply Array.ext
  ·simp [this]
  ·intro i h1 h2
   have:i=0:=by omega
   subst this
   simp only [List.getElem_toArray,List.getElem_cons_zero]
   rw [zC,zI h1,xW]
 rw [hval]
 by_cases h0:xs=[]
 ·subst h0
  have hc0:Go.Lib.compact ([]:List Int)=[]:=zM.1 (by simpa using hle)
  have:∃p cap,vals.getD 0 undef=.slice p 0 cap:=by
   rcases hv0.osl_inv with ⟨_,e,_⟩|⟨_,o,c,e,_⟩
   ·exact ⟨none,0,e⟩
   ·exact ⟨_,c,e⟩
  obtain ⟨p,cap,e⟩:=this
  have hv0':=hv0
  rw [e] at hv0'
  rw [e]
  refine (h2 p cap w).mono ?_
  rintro en w' ⟨rfl,rfl⟩
  refine ⟨_,rfl,by rw [hc0];exact hv0',rfl,rfl,rfl,vJ _,fun _ _ _=>rfl,fun _=>by simp [hc0],fun hn cur e fz hh=>⟨cur,hh,rfl,fun i x c hi=>by simp [hc0] at hi⟩⟩
 ·have hlen:0<xs.length:=List.length_pos_iff.2 h0
  rcases hv0.osl_inv with ⟨_,_,e⟩|⟨hn,o,cc,ev,ho,hcap,hlc,hmx⟩
  ·omega
  have ho':o=g.base 1000:=by
   rcases ho with h|h
   ·omega
   ·simpa using h
  subst ho'
  rw [ev]
  obtain ⟨cur,e,fz,k1,k2,k3,k4,k5⟩:=c2u hO hn
  refine (h1 _ _ xs.length cc xs w (vJ _) (by unfold maxLen at hmx;omega) hlc (fun j hj=>?_) (fun j hj=>?_)).mono ?_
  ·simp only [World.cell?,k1]
   exact k4 j hj
  ·simp only [World.frozen?,k1]
   exact k3.at (by omega)
  rintro en w' ⟨rfl,q,rfl⟩
  rw [xY]
  obtain ⟨q1,q2,q3,q4,q5,cur',q6,q7,q8,_⟩:=a8y (b:=g.ρ 1000) ((Go.Lib.compact xs++List.replicate (xs.length - (Go.Lib.compact xs).length) 0).map (Value.int .i64)) (g.base 1000) (w.drewN q) cur (by exact k1) (by simp;omega)
  refine ⟨_,rfl,.osl 1000 1 0 _ _ cc hn (.inr (by simp)) hcap (by omega) hmx,q1,q2,q3,Nat.le_of_eq q4.symm,fun b hb hne=>q5 b (hne.resolve_right hn),fun h=>absurd h hn,fun _ cur0 e0 fz0 hh=>?_⟩
  rw [k1] at hh;cases hh
  refine ⟨cur',q6,q7,fun i x c hi hcx=>?_⟩
  rw [xQ] at hi
  cases hz:(Go.Lib.compact xs++List.replicate (xs.length - (Go.Lib.compact xs).length) 0)[i]? with
  | none=>rw [hz] at hi;cases hi
  | some z =>
   rw [hz] at hi;cases hi
   simp [V.cells] at hcx
   subst hcx
   have:=q8 i (.int .i64 z) (by rw [xQ,hz];rfl)
   rw [zC,this]
   refine .int _ _ ?_
   rcases wL.1 (z6 hz) with h|h
   ·exact k5 z (hmem z h)
   ·rw [(List.mem_replicate.1 h).2];simp [inR,IntKind.min,IntKind.max,IntKind.signed,IntKind.bits]
theorem b6o (xs:List Int):(Go.Lib.compact xs).length≤xs.length:=by
 simp only [Go.Lib.compact,Go.Lib.compactUpTo,wN]
 exact vB (List.length_filter_le _ _) (by simp)
theorem b54 (xs:List Int):∀x∈Go.Lib.compact xs,x∈xs:=by
 intro x hx
 simp only [Go.Lib.compact,Go.Lib.compactUpTo,vE,wK,List.mem_range] at hx
 obtain ⟨i,⟨hi,_⟩,rfl⟩:=hx
 simp [hi]
def b1d (xs:List Int):Option (List Int):=if xs.length<4611686018427387904 then some (xs.mergeSort fun x y=>decide (x≤y)) else none
def a5s (xs:List Int):Option (Nat×List Int):=some ((Go.Lib.compact xs).length,Go.Lib.compact xs++List.replicate (xs.length - (Go.Lib.compact xs).length) 0)
theorem c08 {f:Nat} (hc:callable P f=true)
  (h1:∀(blk off cap:Nat) (zs:List Int) (w:World),Go.Sort.Holds (Value.int .i64) w blk off zs.toArray→blk<w.heap.size→zs.length<4611686018427387904 →
   Calls P f #[.slice (some ⟨blk,off,none⟩) zs.length cap] w fun e w'=>e=.returned (.tuple #[])∧∃n os,w'=Go.Sort.grow (Go.Sort.putRow (Value.int .i64) (Go.Sort.ahead w n) blk off (zs.mergeSort fun x y=>decide (x≤y)).toArray) os)
  (h2:∀(p:Option Addr) (cap:Nat) (w:World),Calls P f #[.slice p 0 cap] w fun e w'=>e=.returned (.tuple #[])∧w'=w) {xs ys:List Int} (hy:b1d xs=some ys) :
  a0s P f [.osl 1000 1 0 xs.length] [(1000,.arr 1 (xs.map (V.int .i64)))] (fun r H'=>r=.tup []∧H'=[(1000,.arr 1 (ys.map (V.int .i64)))]):=by
 unfold b1d at hy
 split at hy
 ·cases hy;exact c2d hc h1 h2 xs (by assumption)
 ·cases hy
theorem b5c {f:Nat} (hc:callable P f=true)
  (h1:∀(b off n c:Nat) (zs:List Int) (w:World),n≤zs.length→n≤9223372036854775807→n≤c→(∀j,j<zs.length→w.cell? ⟨b,off+j,none⟩=some (.int .i64 (zs.getD j 0)))→(∀j,j<n→w.frozen? ⟨b,off+j,none⟩=false) →
   Calls P f #[.slice (some ⟨b,off,none⟩) n c] w fun e w'=>e=.returned (.slice (some ⟨b,off,none⟩) (Go.Lib.compact (zs.take n)).length c)∧∃q,w'=(w.drewN q).setCells b off ((Go.Lib.compact (zs.take n)++List.replicate (n - (Go.Lib.compact (zs.take n)).length) 0).map (Value.int .i64)))
  (h2:∀(p:Option Addr) (cap:Nat) (w:World),Calls P f #[.slice p 0 cap] w fun e w'=>e=.returned (.slice p 0 cap)∧w'=w) {xs:List Int} {y:Nat×List Int} (hy:a5s xs=some y) :
  a0s P f [.osl 1000 1 0 xs.length] [(1000,.arr 1 (xs.map (V.int .i64)))] (fun r H'=>r=.osl 1000 1 0 y.1∧H'=[(1000,.arr 1 (y.2.map (V.int .i64)))]):=by
 cases hy
 exact b5y hc h1 h2 xs (b6o xs) (b54 xs)
theorem b3p {xs ys:List Int} (hy:b1d xs=some ys):ys.length=xs.length:=by
 unfold b1d at hy
 split at hy
 ·cases hy;simp
 ·cases hy
theorem b2p {xs:List Int} {y:Nat×List Int} (hy:a5s xs=some y):y.1≤y.2.length∧y.2.length=xs.length:=by
 cases hy
 have:=b6o xs
 simp
 omega
end
end Go.Ab
namespace Go.Ab
open Go.RowKit Go.Deep
theorem c7l {S:Nat→Prop} {w:World} {b:Nat} {t:TypeId} {n:Nat} {f:Nat→Value} {F:Nat→V} (h:w.rowIs b t n f) (hS:S b) (hn:n≤maxLen) (hF:∀i,i<n→Rd S w (f i) (F i)) (hc:∀i,i<n→(F i).cells=[F i]∧(F i).one=true∧(F i).sealed=true) :
  Rd S w (.slice (some ⟨b,0,none⟩) n n) (.sl ((List.range n).map F)):=by
 obtain ⟨c,hb,hsz,hcell⟩:=h
 refine .sl b 0 n n 1 c t (0,0) _ hS hb (by simp) hn (vJ _) (.inr (by omega)) (fun x hx=>?_) fun i j x y hi hj=>?_
 ·obtain ⟨i,hi,rfl⟩:=vE.1 hx
  obtain ⟨h1,h2,h3⟩:=hc i (List.mem_range.1 hi)
  refine ⟨by rw [h1];rfl,fun y hy=>?_,h3⟩
  rw [h1] at hy
  simp only [xF] at hy
  subst hy;exact h2
 ·rw [xQ] at hi
  cases hr:(List.range n)[i]? with
  | none=>rw [hr] at hi;cases hi
  | some q =>
   rw [hr] at hi
   simp only [wI,xO] at hi
   obtain ⟨hlt,hq⟩:=zG.1 hr
   simp only [List.getElem_range,List.length_range] at hq hlt
   subst hq
   obtain ⟨h1,h2,h3⟩:=hc i hlt
   rw [←hi,h1] at hj
   cases j with
   | succ j=>simp at hj
   | zero =>
    simp at hj
    subst hj
    have e:c.getD (0+i*1+0) undef=f i:=by
     have:=hcell i hlt
     simp [zC,this]
    rw [e];exact hF i hlt
theorem d7e {S:Nat→Prop} {w:World} {b t tb n m:Nat} {bs:Nat→Nat} {Z:Nat→Nat→Bool} (h0:w.rowIs b t n fun j=>.slice (some ⟨bs j,0,none⟩) m m) (h1:∀j,j<n→w.rowIs (bs j) tb m fun i=>.bool (Z j i))
  (hS:S b) (hSs:∀j,j<n→S (bs j)) (hn:n≤maxLen) (hm:m≤maxLen):Rd S w (.slice (some ⟨b,0,none⟩) n n) (.sl ((List.range n).map fun j=>.sl ((List.range m).map fun i=>.bool (Z j i)))) :=
 c7l h0 hS hn (fun j hj=>c7l (h1 j hj) (hSs j hj) hm (fun i _=>.bool _) fun i _=>⟨rfl,rfl,rfl⟩) fun j _=>⟨rfl,rfl,rfl⟩
theorem a9h {P:Program} {f:Nat} {args:List V} {r:V} (hc:callable P f=true)
  (h:∀(g:Gh) w (vals:Array Value),a3p P g w []→vals.size=args.length→(∀(i:Nat) (x:V),args[i]?=some x→VR g w (vals.getD i undef) x) →
   Calls P f vals w fun en w'=>∃v,en=.returned v∧w.Since w.heap.size w'∧Rd (fun b=>g.S b∨(w.heap.size≤b∧b<w'.heap.size)) w' v r):a0s P f args [] (fun r' H'=>r'=r∧H'=[]):=by
 refine a1l ⟨r,[],[]⟩ hc fun g w vals hH hsz hv=>(h g w vals hH hsz hv).mono ?_
 rintro en w' ⟨v,rfl,hs,hr⟩
 refine ⟨v,{ g with S:=fun b=>g.S b∨(w.heap.size≤b∧b<w'.heap.size) },rfl,⟨hs.os,hs.tape,hs.output,hs.size,fun b hb _=>hs.block b hb,fun _ h=>.inl h,fun b hb=>hb.elim .inl fun e=>.inr (.inl e.1),fun b hb=>?_,fun id _=>⟨rfl,rfl,rfl,vP⟩,fun _ _ h=>by simp at h,fun _ _ h=>by simp at h,fun _ _ _ _ h=>by simp at h,fun _ _ h=>by simp at h⟩,fun _ _ h=>by simp at h,.rd hr⟩
 rcases hb with hb|hb
 ·exact xE (hH.lt b hb) hs.size
 ·exact hb.2
end Go.Ab
namespace Go.Ab
open Go.RowKit
section
variable {P:Program}
theorem VR.sl_slice {g:Gh} {w:World} {v:Value} {xs:List V} (h:VR g w v (.sl xs)):(∃a len cap,v=.slice a len cap)∧Rd g.S w v (.sl xs):=by
 cases h with
 | rd h =>
  refine ⟨?_,h⟩
  cases h with
  | nilsl=>exact ⟨_,_,_,rfl⟩
  | slz a cap=>exact ⟨_,_,_,rfl⟩
  | sl g o len cap k cur e fz xs hS hg hl hm hc hb hk hr=>exact ⟨_,_,_,rfl⟩
theorem a94 {f f1:Nat} {ty:TypeId} (hc:callable P f=true)
  (h:∀(a:Option Addr) (len cap:Nat) (w:World),Calls P f #[.slice a len cap] w fun e w'=>e=.returned (.func (.func f1) #[] #[.pointer (some ⟨w.heap.size,0,none⟩)])∧w'=w.alloc (.cells #[.slice a len cap] ty)) (xs:List V) :
  a0s P f [.sl xs] [] (fun r H'=>r=.fn (.func f1) [.eptr (.agg [.sl xs]) 0]∧H'=[]):=by
 refine a1l ⟨.fn (.func f1) [.eptr (.agg [.sl xs]) 0],[],[]⟩ hc fun g w vals hH hsz hv=>?_
 obtain ⟨⟨a,len,cap,e⟩,hrd⟩:=(hv 0 _ rfl).sl_slice
 have hval:vals=#[.slice a len cap]:=by
  have:vals.size=1:=hsz
  apply Array.ext
  ·simp [this]
  ·intro i h1 h2
   have:i=0:=by omega
   subst this
   simp only [List.getElem_toArray,List.getElem_cons_zero]
   rw [←e,zC,zI h1,xW]
 rw [hval]
 rw [e] at hrd
 refine (h a len cap w).mono ?_
 rintro en w' ⟨rfl,rfl⟩
 have hold:∀b,b<w.heap.size→(w.alloc (.cells #[.slice a len cap] ty)).heap[b]?=w.heap[b]?:=fun b hb=>Below.heap_alloc _ _ _ hb
 have hnew:=World.alloc_heap_new w (.cells #[.slice a len cap] ty)
 refine ⟨_,{ g with S:=fun b=>g.S b∨b=w.heap.size },rfl,⟨rfl,rfl,rfl,by simp,fun b hb _=>hold b hb,fun _ h=>.inl h,fun b hb=>hb.elim .inl fun e=>.inr (.inl (by omega)),fun b hb=>?_,fun id _=>Gh.agree.refl _ _,fun _ _ h=>by simp at h,fun _ _ h=>by simp at h,fun _ _ _ _ h=>by simp at h,fun _ _ h=>by simp at h⟩,fun _ _ h=>by simp at h,?_⟩
 ·rcases hb with h|h
  ·have:=hH.lt b h;simp;omega
  ·simp;omega
 ·refine .fn _ _ _ rfl fun i c hi=>?_
  cases i with
  | succ i=>simp at hi
  | zero =>
   simp at hi;subst hi
   have:=VR.eptr (g:={ g with S:=fun b=>g.S b∨b=w.heap.size }) (w:=w.alloc (.cells #[.slice a len cap] ty)) w.heap.size 0 0 #[.slice a len cap] ty (0,0) (.agg [.sl xs]) (.inr rfl) hnew (by simp [V.cells]) (fun j c hj=>?_)
   ·simpa using this
   ·cases j with
    | succ j=>simp [V.cells] at hj
    | zero =>
     simp [V.cells] at hj;subst hj
     simpa using hrd.mono (S':=fun b=>g.S b∨b=w.heap.size) (fun b hS=>hold b (hH.lt b hS)) fun _ h=>.inl h
end
end Go.Ab
namespace Go.Ab
def stp (L:Nat→Nat→Bool) (a b:Nat) (f:Nat→Bool):Nat→Bool:=fun i=>if i=b then f b||(f a&&L a b) else f i
def inn (L:Nat→Nat→Bool) (a:Nat) (f:Nat→Bool):Nat→Nat→Bool
  | 0=>f
  | b+1=>stp L a b (inn L a f b)
def b1a (L:Nat→Nat→Bool) (n:Nat) (f:Nat→Bool):Nat→Nat→Bool
  | 0=>f
  | a+1=>inn L a (b1a L n f a) n
def oul (L:Nat→Nat→Bool) (n:Nat) (f:Nat→Bool):Nat→Nat→Bool
  | 0=>f
  | k+1=>b1a L n (oul L n f k) n
section search
variable {L:Nat→Nat→Bool} {n:Nat}
theorem b74 {a b:Nat} {f:Nat→Bool} {i:Nat} (h:f i=true):stp L a b f i=true:=by
  simp only [stp];split
  · subst_vars;simp [h]
  · exact h
theorem b3h {a:Nat} {f:Nat→Bool} {i:Nat} (h:f i=true):∀b,inn L a f b i=true
  | 0=>h
  | b+1=>b74 (b3h h b)
theorem a6f {f:Nat→Bool} {i:Nat} (h:f i=true):∀a,b1a L n f a i=true
  | 0=>h
  | a+1=>b3h (a6f h a) n
theorem e97 {a:Nat} {f:Nat→Bool} {i b:Nat} (h:inn L a f b i=true):∀c,b≤c→inn L a f c i=true:=by
  intro c hc
  induction c with
  | zero => have:b=0:=by omega
            subst this;exact h
  | succ c ih =>
    by_cases e:b=c+1
    · subst e;exact h
    · exact b74 (ih (by omega))
theorem d7v {f:Nat→Bool} {i b:Nat} (h:b1a L n f b i=true):∀c,b≤c→b1a L n f c i=true:=by
  intro c hc
  induction c with
  | zero => have:b=0:=by omega
            subst this;exact h
  | succ c ih =>
    by_cases e:b=c+1
    · subst e;exact h
    · exact b3h (ih (by omega)) n
theorem c7x {f:Nat→Bool} {a b:Nat} (ha:a<n) (hb:b<n) (h:f a=true) (hl:L a b=true):b1a L n f n b=true:=by
  refine d7v (b:=a+1) ?_ n (by omega)
  show inn L a (b1a L n f a) n b=true
  refine e97 (b:=b+1) ?_ n (by omega)
  show stp L a b (inn L a (b1a L n f a) b) b=true
  have h1:=b3h (L:=L) (a:=a) (a6f (L:=L) (n:=n) h a) b
  simp [stp,h1,hl]
theorem b95 {P:Nat→Prop} {a:Nat} (ha:a<n) (hP:∀a b,a<n→b<n→P a→L a b=true→P b) {f:Nat→Bool} (hf:∀i,f i=true→P i):∀b,b≤n→∀i,inn L a f b i=true→P i
  | 0,_,i,h=>hf i h
  | b + 1,hb,i,h=>by
    have ih:=b95 ha hP hf b (by omega)
    simp only [inn,stp] at h
    split at h
    · rename_i e
      subst e
      rw [wR,wE] at h
      rcases h with h|h
      · exact ih _ h
      · exact hP a i ha (by omega) (ih a h.1) h.2
    · exact ih i h
theorem a8l {P:Nat→Prop} (hP:∀a b,a<n→b<n→P a→L a b=true→P b) {f:Nat→Bool} (hf:∀i,f i=true→P i):∀a,a≤n→∀i,b1a L n f a i=true→P i
  | 0,_,i,h=>hf i h
  | a+1,ha,i,h=>b95 (by omega) hP (a8l hP hf a (by omega)) n (vJ _) i h
theorem b8q {P:Nat→Prop} (hP:∀a b,a<n→b<n→P a→L a b=true→P b) {f:Nat→Bool} (hf:∀i,f i=true→P i):∀k i,oul L n f k i=true→P i
  | 0,i,h=>hf i h
  | k+1,i,h=>a8l hP (b8q hP hf k) n (vJ _) i h
theorem c33 {f:Nat→Bool} {i:Nat} (h:f i=true):∀k,oul L n f k i=true
  | 0=>h
  | k+1=>a6f (c33 h k) n
def cnt (f:Nat→Bool):Nat→Nat
  | 0=>0
  | n+1=>cnt f n+bif f n then 1 else 0
theorem b6p (f:Nat→Bool):∀n,cnt f n≤n
  | 0=>vJ 0
  | n+1=>by have:=b6p f n;simp only [cnt];cases f n<;>simp<;>omega
theorem cnt_mono {f g:Nat→Bool} (h:∀i,f i=true→g i=true):∀n,cnt f n≤cnt g n
  | 0=>vJ 0
  | n+1=>by
    have ih:=cnt_mono h n
    simp only [cnt]
    cases hf:f n with
    | true=>rw [h n hf];simp;exact ih
    | false=>cases g n<;>simp<;>omega
theorem cnt_lt {f g:Nat→Bool} (h:∀i,f i=true→g i=true) {j:Nat} (hf:f j=false) (hg:g j=true):∀n,j<n→cnt f n<cnt g n
  | 0,hj=>absurd hj (Nat.not_lt_zero _)
  | n + 1,hj=>by
    simp only [cnt]
    by_cases e:j=n
    · subst e
      have:=cnt_mono h j
      rw [hf,hg];simp;omega
    · have:=cnt_lt h hf hg n (by omega)
      cases hfn:f n with
      | true=>rw [h n hfn];simp;exact this
      | false=>cases g n<;>simp<;>omega
theorem c1x {f:Nat→Bool} {j:Nat} (hf:f j=true):∀n,j<n→1≤cnt f n
  | 0,hj=>absurd hj (Nat.not_lt_zero _)
  | n+1,hj=>by
    simp only [cnt]
    by_cases e:j=n
    · subst e;rw [hf];simp
    · have:=c1x hf n (by omega);omega
def Clo (L:Nat→Nat→Bool) (n:Nat) (f:Nat→Bool):Prop:=∀a b,a<n→b<n→f a=true→L a b=true→f b=true
theorem c7s {c:Nat} (hc:c<n):∀k,Clo L n (oul L n (fun i=>decide (i=c)) k)∨k+1≤cnt (oul L n (fun i=>decide (i=c)) k) n
  | 0=>.inr (c1x (j:=c) (by simp [oul]) n hc)
  | k + 1=>by
    have ih:=c7s hc k
    by_cases hcl:Clo L n (oul L n (fun i=>decide (i=c)) k)
    · left
      have e:oul L n (fun i=>decide (i=c)) (k+1)=oul L n (fun i=>decide (i=c)) k:=by
        funext i
        rw [wS]
        exact ⟨fun h=>a8l (P:=fun i=>oul L n (fun i=>decide (i=c)) k i=true) hcl (fun i h=>h) n (vJ _) i h,fun h=>a6f h n⟩
      rw [e];exact hcl
    · right
      have ih:=ih.resolve_left hcl
      have:∃a b,a<n∧b<n∧oul L n (fun i=>decide (i=c)) k a=true∧L a b=true∧oul L n (fun i=>decide (i=c)) k b=false:=Classical.byContradiction fun hn=>hcl fun a b ha hb h hl=>by
        cases hb':oul L n (fun i=>decide (i=c)) k b with
        | true=>rfl
        | false=>exact absurd ⟨a,b,ha,hb,h,hl,hb'⟩ hn
      obtain ⟨a,b,ha,hb,h,hl,hb'⟩:=this
      have:=cnt_lt (f:=oul L n (fun i=>decide (i=c)) k) (g:=oul L n (fun i=>decide (i=c)) (k+1)) (fun i h=>a6f h n) hb' (c7x ha hb h hl) n hb
      omega
theorem b6d {c:Nat} (hc:c<n):Clo L n (oul L n (fun i=>decide (i=c)) n):=(c7s hc n).resolve_right fun h=>by have:=b6p (oul L n (fun i=>decide (i=c)) n) n;omega
theorem d26 {f:Nat→Bool} (h:Clo L n f):b1a L n f n=f:=by
  funext i
  rw [wS]
  exact ⟨fun h'=>a8l (P:=fun i=>f i=true) h (fun i h=>h) n (vJ _) i h',fun h=>a6f h n⟩
theorem c1e {f:Nat→Bool} {k:Nat} (h:b1a L n (oul L n f k) n=oul L n f k):∀j,oul L n f (k+j)=oul L n f k
  | 0=>rfl
  | j+1=>by show b1a L n (oul L n f (k+j)) n=_;rw [c1e h j,h]
theorem b7m {c k:Nat} (hc:c<n) (h:b1a L n (oul L n (fun i=>decide (i=c)) k) n=oul L n (fun i=>decide (i=c)) k):oul L n (fun i=>decide (i=c)) k=oul L n (fun i=>decide (i=c)) n:=by
  have h2:=d26 (b6d (L:=L) hc)
  rw [←c1e h n,←c1e h2 k,Nat.add_comm]
theorem e4k {a b:Nat} {f:Nat→Bool} (h:(f a&&L a b&&!f b)=false):stp L a b f=f:=by
  funext i
  simp only [stp]
  split
  · rename_i e
    rw [e]
    cases hb:f b with
    | false=>rw [hb] at h;simpa using h
    | true=>simp
  · rfl
end search
end Go.Ab
namespace Go.Ab
open Go.RowKit
section
variable {P:Program}
theorem g7d {vals:Array Value} (h:vals.size=3):vals=#[vals.getD 0 undef,vals.getD 1 undef,vals.getD 2 undef]:=by
 apply Array.ext
 ·simp [h]
 ·intro i h1 h2
  have:i=0∨i=1∨i=2:=by omega
  rcases this with rfl|rfl|rfl<;>simp [zC,h1]
theorem f2t {vals:Array Value} (h:vals.size=2):vals=#[vals.getD 0 undef,vals.getD 1 undef]:=by
 apply Array.ext
 ·simp [h]
 ·intro i h1 h2
  have:i=0∨i=1:=by omega
  rcases this with rfl|rfl<;>simp [zC,h1]
theorem g0k {g:Gh} {w:World} {v:Value} {xs:List V} (h:VR g w v (.sl xs)):Rd g.S w v (.sl xs):=by
 cases h with
 | rd h=>exact h
end
def bws (b s:Str):Option Str:=chk (room (b.length+s.length) 1) (some (b++s))
def g2d (b:Str):Option Str:=some b
def b2z (n:Int):Option Str:=chk (a0w n) (some (Lib.itoa n))
def a1v (s:Str):Int:=match Lib.atoiAll s with
 | .ok v=>v
 | .range=>Lib.atoiSat s
 | _=>0
def d4e (s:Str):Option Int:=chk (decide (s.length≤281474976710656)) (some (a1v s))
theorem d04 {s:Str} {y:Int} (h:d4e s=some y):s.length≤281474976710656∧y=a1v s:=by
 unfold d4e chk at h
 cases hc:decide (s.length≤281474976710656) with
 | false=>rw [hc] at h;cases h
 | true =>
  rw [hc] at h
  exact ⟨of_decide_eq_true hc,(wH h).symm⟩
def a2g (s:Str):Bool:=match Lib.atoiAll s with
 | .ok _=>true
 | _=>false
def a5y (s:Str):Option (Int×Bool):=chk (decide (s.length≤281474976710656)) (some (a1v s,a2g s))
theorem b58 {s:Str} {y:Int×Bool} (h:a5y s=some y):s.length≤281474976710656∧y=(a1v s,a2g s):=by
 unfold a5y chk at h
 cases hc:decide (s.length≤281474976710656) with
 | false=>rw [hc] at h;cases h
 | true =>
  rw [hc] at h
  exact ⟨of_decide_eq_true hc,(wH h).symm⟩
theorem b57 (s:Str):rng .i64 (a1v s):=by
 unfold a1v
 split
 ·rename_i v h;exact Lib.atoiAll_bounds h
 ·unfold Lib.atoiSat
  split<;>exact ⟨by decide,by decide⟩
 ·exact ⟨by decide,by decide⟩
theorem e0a {b s y:Str} (h:bws b s=some y):b.length+s.length≤140737488355328∧y=b++s:=by
 unfold bws chk at h
 cases hc:room (b.length+s.length) 1 with
 | false=>rw [hc] at h;cases h
 | true =>
  rw [hc] at h
  have:=a6t.1 hc
  refine ⟨by simpa using this,?_⟩
  cases h;rfl
theorem c8j {n:Int} {y:Str} (h:b2z n=some y):rng .i64 n∧y=Lib.itoa n:=by
 unfold b2z chk at h
 cases hc:a0w n with
 | false=>rw [hc] at h;cases h
 | true =>
  rw [hc] at h
  refine ⟨a3d.1 hc,?_⟩
  cases h;rfl
end Go.Ab
namespace Go.Ab
open Go.Proofs Go.RowKit
def glue (c:Str):List Str→List Str
 | []=>[c]
 | h::t=>(c++h)::t
def spl (b:UInt8):Str→List Str
 | []=>[[]]
 | c::r=>if c=b then []::spl b r else glue [c] (spl b r)
theorem c0p {b:UInt8}:∀{w:Str} (r:Str),(∀c∈w,c≠b)→spl b (w++b::r)=w::spl b r
 | [],r,_=>by simp [spl]
 | c::w,r,h=>by
  have ih:=c0p (b:=b) (w:=w) r fun k hk=>h k (by simp [hk])
  have hc:c≠b:=h c (by simp)
  simp only [List.cons_append,spl,if_neg hc,ih,glue,List.nil_append]
theorem b3d {b:UInt8}:∀{w:Str},(∀c∈w,c≠b)→spl b w=[w]
 | [],_=>rfl
 | c::w,h=>by
  have ih:=b3d (b:=b) (w:=w) fun k hk=>h k (by simp [hk])
  have hc:c≠b:=h c (by simp)
  simp only [spl,if_neg hc,ih,glue,List.cons_append,List.nil_append]
theorem b96 (b:UInt8):∀s:Str,(Lib.index s [b]=-1∧∀c∈s,c≠b)∨∃i:Nat,Lib.index s [b]=i∧s=s.take i++b::s.drop (i+1)∧∀c∈s.take i,c≠b
 | []=>.inl ⟨by simp [Lib.index],by simp⟩
 | c::r=>by
  by_cases h:c=b
  ·subst h
   exact .inr ⟨0,by rw [Lib.index];simp [List.isPrefixOf],by simp,by simp⟩
  ·have hp:([b]:List UInt8).isPrefixOf (c::r)=false:=by simp [List.isPrefixOf,Ne.symm h]
   have hix:Lib.index (c::r) [b]=if Lib.index r [b]==-1 then -1 else Lib.index r [b]+1:=by rw [Lib.index,hp];simp
   rcases b96 b r with ⟨h1,h2⟩|⟨i,h1,h2,h3⟩
   ·exact .inl ⟨by rw [hix,h1];rfl,fun x hx=>by rcases List.mem_cons.1 hx with rfl|hx;exact h;exact h2 x hx⟩
   ·refine .inr ⟨i+1,by rw [hix,h1,if_neg (by simp;try omega)];omega,by rw [List.take_succ_cons,List.drop_succ_cons,List.cons_append,←h2],fun x hx=>?_⟩
    rw [List.take_succ_cons] at hx
    rcases List.mem_cons.1 hx with rfl|hx
    ·exact h
    ·exact h3 x hx
theorem b62 (b:UInt8):∀(k:Nat) (s:Str),s.count b≤k→Lib.splitK [b] 0 k s=spl b s
 | 0,s,h=>by
  have:∀c∈s,c≠b:=fun c hc e=>by subst e;have:=List.count_pos_iff.2 hc;omega
  rw [b3d this];rfl
 | k+1,s,h=>by
  rw [Lib.splitK]
  rcases b96 b s with ⟨h1,h2⟩|⟨i,h1,h2,h3⟩
  ·rw [h1,if_pos (by rfl),b3d h2]
  ·have hn:s.count b=(s.drop (i+1)).count b+1:=by
    have h0:(s.take i).count b=0:=List.count_eq_zero.2 fun hm=>h3 b hm rfl
    conv=>lhs;rw [h2]
    rw [List.count_append,h0,List.count_cons_self];omega
   rw [h1,if_neg (by simp;try omega),b62 b k _ (by simp;try omega)]
   conv=>rhs;rw [h2,c0p _ h3]
   simp
theorem c4d (b:UInt8) (s:ByteArray):(Lib.splitB ⟨#[b]⟩ 0 (Lib.countB s ⟨#[b]⟩) s).map (·.data.toList)=spl b s.data.toList:=by
 rw [Lib.splitB_data]
 refine b62 b _ _ ?_
 show _≤Lib.count s.data.toList [b]
 rw [Lib.count_one];exact Nat.le_refl _
theorem d3c {c:Str} {n:Nat}:∀{l:List Str},(∀z∈l,z.length+c.length≤n)→c.length≤n→∀z∈glue c l,z.length≤n
 | [],_,h,z,hz=>by simp [glue] at hz;subst hz;exact h
 | x::t,h,_,z,hz=>by
  simp only [glue,List.mem_cons] at hz
  rcases hz with rfl|hz
  ·have:=h x (by simp);rw [List.length_append];omega
  ·have:=h z (by simp [hz]);omega
theorem c0o (b:UInt8):∀(s:Str),∀z∈spl b s,z.length≤s.length
 | [],z,hz=>by simp [spl] at hz;subst hz;simp
 | c::r,z,hz=>by
  have ih:=c0o b r
  simp only [spl] at hz
  split at hz
  ·rcases List.mem_cons.1 hz with rfl|hz
   ·simp
   ·have:=ih z hz;simp;omega
  ·exact d3c (fun z hz=>by have:=ih z hz;simp;omega) (by simp) z hz
def d4x (s t:Str):Option (List Str):=match t with
 | [b]=>bif decide (s.length<4294967281) then some (spl b s) else none
 | _=>none
end Go.Ab
namespace Go.Proofs
open Go.Shelf Go.RowKit Go.Lib Go.Ab
variable {P:Program} {ρ:Ren}
set_option maxHeartbeats 1000000 in
theorem Any.strings_Split_one (L:Lays.n146 P ρ) (hi9:(P.info? (ρ.t 9)).map (fun i=>(i.zero,i.size,i.bytes))=some (some (.string ByteArray.empty),1,16)) (s:ByteArray) (b:UInt8) (w:World)
  (hs:s.size<4294967281) :
  Calls P (ρ.f 146) #[.string s,.string ⟨#[b]⟩] w fun e w' =>
   e=.returned (.slice (some ⟨w.heap.size,0,none⟩) (Lib.countB s ⟨#[b]⟩+1) (Lib.countB s ⟨#[b]⟩+1))∧w'=w.alloc (.cells ((Lib.splitB ⟨#[b]⟩ 0 (Lib.countB s ⟨#[b]⟩) s).map Value.string).toArray (ρ.t 9)):=by
 have h1:1≤(⟨#[b]⟩:ByteArray).size:=Nat.le_refl _
 have hle:=Lib.countB_le ⟨#[b]⟩ h1 s.size s (Nat.le_refl _)
 have hlen:=Lib.splitB_all ⟨#[b]⟩ h1 0 _ s rfl
 have c:=Any.strings_genSplit_core { L with } hi9 s ⟨#[b]⟩ 0 (-1) (Lib.countB s ⟨#[b]⟩+1) w hs h1 (Nat.zero_le _)
  (fun x c hx=>(Any.strings_Index_one { L with } x b _).mono fun e w' h=>⟨by rw [h.1];show _=Ending.returned (Value.int .i64 (Lib.index x.data.toList [b]));rw [Lib.index_one],h.2⟩)
  ((Any.strings_Count_one { L with } s b w).mono fun e w' h=>⟨by rw [h.1];show _=Ending.returned (Value.int .i64 ((Lib.count s.data.toList [b]:Nat):Int));rw [Lib.count_one];rfl,h.2⟩)
  (by decide) (by decide) (by rw [if_pos (by decide)];omega)
 rw [Nat.add_sub_cancel,hlen] at c
 have e2:Lib.cellsOf (Lib.splitB ⟨#[b]⟩ 0 (Lib.countB s ⟨#[b]⟩) s) (Lib.countB s ⟨#[b]⟩+1)=((Lib.splitB ⟨#[b]⟩ 0 (Lib.countB s ⟨#[b]⟩) s).map Value.string).toArray:=by rw [←hlen];exact Lib.cellsOf_full _
 rw [e2] at c
 have t3:=L.t3;have t9:=L.t9;have t31:=L.t31
 have a3:=L.a3;have a9:=L.a9;have a31:=L.a31
 have z3:=L.z3;have v3:=L.v3;have z9:=L.z9;have v9:=L.v9;have z31:=L.z31;have v31:=L.v31
 have e221:∀args w,(callFunc (ρ.f 221) args).run P w=.ok (.enter (ρ.f 221) args) w:=enters_of L.f221 (by kernel_rfl) rfl
 go_enter L.f146,Body.n146_ntmps ρ
 go_wp2_with (go_at_fn (ρ.f 221);refine c.mono ?_;rintro e w' ⟨rfl,hw⟩;rw [hw])
 go_ret
 exact ⟨rfl,rfl⟩
end Go.Proofs
namespace Go.Ab
open Go.Proofs Go.Shelf Go.RowKit Go.Deep
theorem c2b {P:Program} {ρ:Ren} (L:Lays.n146 P ρ) (hc:callable P (ρ.f 146)=true) (hi9:(P.info? (ρ.t 9)).map (fun i=>(i.zero,i.size,i.bytes))=some (some (.string ByteArray.empty),1,16)) {s t:Str} {y:List Str} (hy:d4x s t=some y) :
  a0s P (ρ.f 146) [.str s,.str t] [] (fun r H=>r=.sl (y.map V.str)∧H=[]):=by
 unfold d4x at hy
 split at hy
 ·rename_i b
  cases hd:decide (s.length<4294967281) with
  | false=>rw [hd] at hy;cases hy
  | true =>
   rw [hd] at hy
   obtain rfl:=Option.some.inj hy
   have hs:=of_decide_eq_true hd
   refine a9h hc fun g w vals hH hl hv=>?_
   obtain ⟨q,e1,e2,_⟩:=(hv 0 _ rfl).str_inv
   obtain ⟨q',e1',e2',_⟩:=(hv 1 _ rfl).str_inv
   have hq:q'=⟨#[b]⟩:=by
    apply ByteArray.ext
    apply Array.toList_inj.1
    rw [e2']
   have ha:vals=#[vals.getD 0 undef,vals.getD 1 undef]:=by
    apply Array.ext
    ·simpa using hl
    ·intro i h1 h2
     have:i=0∨i=1:=by simp at h2;omega
     rcases this with rfl|rfl<;>simp [Array.getD_eq_getD_getElem?,h1]
   rw [ha,e1,e1',hq]
   have hsz:q.size=s.length:=by rw [←e2,Array.length_toList];rfl
   refine (Any.strings_Split_one L hi9 q b w (by omega)).mono ?_
   rintro en w' ⟨rfl,rfl⟩
   have hlen:=Lib.splitB_all ⟨#[b]⟩ (Nat.le_refl _) 0 _ q rfl
   have hspl:=c4d b q
   generalize Lib.splitB ⟨#[b]⟩ 0 (Lib.countB q ⟨#[b]⟩) q=l at hlen hspl
   have hcn:=Lib.countB_le ⟨#[b]⟩ (Nat.le_refl _) q.size q (Nat.le_refl _)
   generalize Lib.countB q ⟨#[b]⟩=n at hlen hcn
   rw [e2] at hspl
   refine ⟨_,rfl,(World.Since.refl _ _).alloc (Nat.le_refl _) _,?_⟩
   have hmx:n+1≤maxLen:=Nat.le_trans (show n+1≤4294967295 by omega) (by unfold maxLen;decide)
   refine .sl w.heap.size 0 (n+1) (n+1) 1 (l.map Value.string).toArray (ρ.t 9) (0,0) _ (.inr ⟨Nat.le_refl _,by simp⟩) (by show (w.heap.push _)[w.heap.size]?=_;exact Array.getElem?_push_size) (by rw [List.length_map,←hspl,List.length_map,hlen]) hmx (Nat.le_refl _) (.inr (by simp [hlen])) (fun x hx=>?_) fun i j x c hi hj=>?_
   ·obtain ⟨z,_,rfl⟩:=List.mem_map.1 hx
    exact ⟨rfl,fun c hc=>by simp [V.cells] at hc;subst hc;rfl,rfl⟩
   ·rw [←hspl,List.map_map,List.getElem?_map] at hi
    obtain ⟨z,hz,rfl⟩:=Option.map_eq_some_iff.1 hi
    cases j with
    | succ j=>simp [V.cells,Function.comp] at hj
    | zero =>
     simp [V.cells,Function.comp] at hj
     subst hj
     have:((l.map Value.string).toArray).getD (0+i*1+0) undef=.string z:=by
      simp [Array.getD_eq_getD_getElem?,hz]
     rw [this]
     refine .str z ?_
     have hm:z.data.toList∈spl b s:=by rw [←hspl];exact List.mem_map.2 ⟨z,List.mem_of_getElem? hz,rfl⟩
     have:=c0o b s _ hm
     rw [Array.length_toList] at this
     exact Nat.le_trans (Nat.le_trans this (Nat.le_of_lt hs)) (by unfold maxLen;decide)
 ·cases hy
end Go.Ab
namespace Go.Ab
open Go.Proofs
theorem c5g {n k m:Nat} {o:Option Nat}:V.sealOK n k m (fnV o)=True:=by cases o<;>simp [fnV,V.sealOK,V.sealOKs]
theorem d3g {n:Nat} {xs:List V} {o:Option Nat}:V.shut n xs (fnV o)=fnV o:=by cases o<;>simp [fnV,V.shut,V.sealL]
theorem d9q {a b:Nat} {o:Option Nat}:V.ren a b (fnV o)=fnV o:=by cases o<;>simp [fnV,V.ren,V.renL]
theorem d9p {n:Nat} {y:V} {o:Option Nat}:V.shm n y (fnV o)=fnV o:=by cases o<;>simp [fnV,V.shm,V.shmL]
theorem c5f {l:List Nat} {o:Option Nat}:V.within l (fnV o)=true:=by cases o<;>simp [fnV,V.within,V.withinL]
attribute [go_sem ↓] c3n c8v d5g c8u c5g d3g d9q d9p c5f c8t c8w b9d d5f b9c c3m
class WI {α:Type} (F:Option α) (P:outParam Program) (n:outParam Nat) (args:outParam (List V)) (H:outParam Heap) (RV:outParam (α→V)) (HV:outParam (α→Heap)):Prop where
 c:Cn P n args H F RV HV
theorem WI.w {α:Type} {F:Option α} {P:Program} {n:Nat} {args:List V} {H:Heap} {RV:α→V} {HV:α→Heap} [i:WI F P n args H RV HV] {y:α} (hy:F=some y):a0s P n args H (fun r H'=>r=RV y∧H'=HV y):=i.c.w hy
def Al {α:Type} (o:Option α) (Q:α→Prop):Prop:=∀y,o=some y→Q y
section
variable {α β:Type} {Q:α→Prop}
theorem Al.chk {b:Bool} {o:Option α} (h:Al o Q):Al (chk b o) Q:=by
 intro y e
 cases b with
 | true=>exact h y e
 | false=>cases e
theorem Al.ite {b:Bool} {x y:Option α} (h1:Al x Q) (h2:Al y Q):Al (bif b then x else y) Q:=by cases b<;>assumption
theorem Al.bind {o:Option β} {f:β→Option α} (h:∀y,o=some y→Al (f y) Q):Al (o.bind f) Q:=by
 intro y e
 obtain ⟨w,h1,h2⟩:=zL.1 e
 exact h w h1 y h2
theorem Al.jn {o:Option β} {f:β→Option α} (h:∀y,o=some y→Al (f y) Q):Al (jn o f) Q:=Al.bind h
theorem Al.grp {x:β} {f:β→Option α} (h:Al (f x) Q):Al (grp x f) Q:=h
theorem Al.some {x:α} (h:Q x):Al (some x) Q:=fun y e=>by cases e;exact h
theorem Al.none:Al none Q:=fun y e=>by cases e
end
theorem b3e {σ ρ:Type} {step:σ→Option (Fl σ ρ)} {m:σ→Nat} {r:ρ→Nat} (h:∀s o,step s=some o→o.elim (fun s'=>m s'=m s) (fun q=>r q=m s)) {s:σ} {q:ρ} (hl:loop step s=some q):r q=m s:=by
 obtain ⟨n,hn⟩:=a6g.1 hl
 clear hl
 induction n generalizing s with
 | zero=>simp [iter] at hn
 | succ n ih =>
  simp only [iter,zL] at hn
  obtain ⟨o,h1,h2⟩:=hn
  have e:=h _ _ h1
  cases o with
  | nx s'=>exact (ih h2).trans e
  | ex q'=>cases h2;exact e
class LI (b:MC) (isl nsl:outParam Nat) (ke kh:outParam (List Nat)) {σ:outParam Type} (ue:outParam (σ→List (Nat×V))) (uh:outParam (σ→List Up)) (ns:outParam (List a4x)):Prop
class GI (b:List MOp) (ke kh:outParam (List Nat)) {σ:outParam Type} (ue:outParam (σ→List (Nat×V))) (uh:outParam (σ→List Up)):Prop
class GV (b:List MOp) (d:outParam Nat) (ds:outParam (List Nat)):Prop
section
variable {M:a15} {c:Cfg} {e:List (Nat×V)} {h:Heap} {s:List Fr}
theorem a15.go_un {b b':MC} {σ:St} (e:b=b') (h:M.go c b' s σ):M.go c b s σ:=e▸h
theorem a15.ops_un {b b':List MOp} {σ:St} (e:b=b') (h:M.ops c b' s σ):M.ops c b s σ:=e▸h
theorem a15.jn2 {α β:Type} {a b:MC} {A:Option α} {B:α→Option β} {Q:β→Prop} {i n:Nat} {ke kh:List Nat} {ue:α→List (Nat×V)} {uh:α→List Up} {ns:List a4x} [LI b i n ke kh ue uh ns] (hF:Ok (jn A B) Q)
  (h1:∀(Qn:α→Prop) (K:St→Prop),(∀σ',(a0q c.H0 ns σ' fun σ'=>∃y,Qn y∧a0u (ovS e h ke kh (ue y) (uh y)) σ')→K σ')→Ok A Qn→M.go ⟨c.P,c.H0,K,M.kX c s,c.R⟩ a [] ⟨e,h⟩)
  (h2:∀y,Ok (B y) Q→M.go c b s (ovS e h ke kh (ue y) (uh y))):M.go c (.cut a b) s ⟨e,h⟩:=M.jn1 ke kh ue uh ns hF h1 h2
theorem a15.jnE2 {α β ρ:Type} {a b:MC} {A:Option (Fl α ρ)} {B:α→Option β} {E:ρ→Option β} {Q:β→Prop} {i n:Nat} {ke kh:List Nat} {ue:α→List (Nat×V)} {uh:α→List Up} {ns:List a4x} [LI b i n ke kh ue uh ns] (hF:Ok (jn A fun o=>o.elim B E) Q)
  (h1:∀(Qn:α→Prop) (K:St→Prop),(∀σ',(a0q c.H0 ns σ' fun σ'=>∃y,Qn y∧a0u (ovS e h ke kh (ue y) (uh y)) σ')→K σ')→Ok A (Fl.elim Qn fun r=>Ok (E r) Q)→M.go ⟨c.P,c.H0,K,M.kX c s,c.R⟩ a [] ⟨e,h⟩)
  (h2:∀y,Ok (B y) Q→M.go c b s (ovS e h ke kh (ue y) (uh y))):M.go c (.cut a b) s ⟨e,h⟩:=M.jnE ke kh ue uh ns hF h1 h2
theorem a15.gj2 {α β:Type} {ms:List MOp} {its:List It} {A:Option α} {B:α→Option β} {Q:β→Prop} {ke kh:List Nat} {ue:α→List (Nat×V)} {uh:α→List Up} [GI ms ke kh ue uh] (hF:Ok (jn A B) Q)
  (h1:∀(Qn:α→Prop) (K:St→Prop),(∀σ',(∃y,Qn y∧a0u (ovS e h ke kh (ue y) (uh y)) σ')→K σ')→Ok A Qn→M.ops ⟨c.P,c.H0,K,fun _ _=>False,fun _=>False⟩ ms [] ⟨e,h⟩)
  (h2:∀y,Ok (B y) Q→M.kN c (.it its::s) (ovS e h ke kh (ue y) (uh y))):M.grpC c ms its s ⟨e,h⟩:=M.gj1 ke kh ue uh hF h1 h2
theorem a15.gv2 {ms:List MOp} {its:List It} {x:Bool} {β:Type} {B:Bool→Option β} {Q:β→Prop} {d:Nat} {ds:List Nat} [GV ms d ds] (hF:Ok (grp x B) Q)
  (h1:∀(K:St→Prop),(∀σ',a0u ⟨put d (.bool x) (b9q ds e),h⟩ σ'→K σ')→M.ops ⟨c.P,c.H0,K,fun _ _=>False,fun _=>False⟩ ms [] ⟨e,h⟩)
  (h2:∀b,Ok (B b) Q→M.kN c (.it its::s) ⟨put d (.bool b) (b9q ds e),h⟩):M.grpC c ms its s ⟨e,h⟩:=M.gv1 d ds hF h1 h2
theorem a15.wh2 {σ ρ:Type} {b:MC} {step:σ→Option (Fl σ ρ)} {s0:σ} {Q:ρ→Prop} {i n:Nat} {ke kh:List Nat} {ue:σ→List (Nat×V)} {uh:σ→List Up} {ns:List a4x} [LI b i n ke kh ue uh ns] (hF:Ok (loop step s0) Q)
  (h0:a0q c.H0 ns ⟨e,h⟩ fun σ'=>a0u (ovS e h ke kh (ue s0) (uh s0)) σ')
  (round:∀(x:σ) (Qn:σ→Prop) (K:St→Prop),(∀σ',(a0q c.H0 ns σ' fun σ'=>∃y,Qn y∧a0u (ovS e h ke kh (ue y) (uh y)) σ')→K σ')→Ok (step x) (Fl.elim Qn Q)→M.go ⟨c.P,c.H0,K,M.kX c s,c.R⟩ b [] (ovS e h ke kh (ue x) (uh x))) :
  M.go c (.loop b) s ⟨e,h⟩:=M.wh1 ke kh ue uh ns hF h0 round
theorem a15.for2 {α σ ρ:Type} [Inhabited α] {b:MC} {body:Int→α→σ→Option (Fl σ ρ)} {xs:List α} {s0:σ} {Q:Fl σ ρ→Prop} {isl nsl:Nat} {ke kh:List Nat} {ue:σ→List (Nat×V)} {uh:σ→List Up} {ns:List a4x} [LI b isl nsl ke kh ue uh ns] (hF:Ok (forL body xs 0 s0) Q)
  (h0:a0q c.H0 ns ⟨e,h⟩ fun σ'=>a0u (ovS e h ke kh ((isl,.int .i64 ((0:Nat):Int))::ue s0) (uh s0)) σ')
  (round:∀(k:Nat) (a:α) (x:σ) (Qn:σ→Prop) (K:St→Prop),(∀σ',(a0q c.H0 ns σ' fun σ'=>∃y,Qn y∧a0u (ovS e h ke kh ((isl,.int .i64 ((k+1:Nat):Int))::ue y) (uh y)) σ')→K σ')→k<xs.length→xs.getD k default=a →
   Ok (body k a x) (Fl.elim Qn fun r=>Q (.ex r))→(∀{y:V},find nsl (ovS e h ke kh ((isl,.int .i64 k)::ue x) (uh x)).env=some y→y.fact)→M.go ⟨c.P,c.H0,K,M.kX c s,c.R⟩ b [] (ovS e h ke kh ((isl,.int .i64 k)::ue x) (uh x)))
  (stop:∀(x:σ) (K:St→Prop),Q (.nx x)→M.go ⟨c.P,c.H0,K,M.kX c s,c.R⟩ b [] (ovS e h ke kh ((isl,.int .i64 (xs.length:Int))::ue x) (uh x))):M.go c (.loop b) s ⟨e,h⟩ :=
 M.for1 isl ke kh ue uh ns hF h0 (fun k a x Qn K h1 h2 h3 h4 h5=>round k a x Qn K h1 h2 h3 h4 fun h=>a1m h5.1 h) stop
theorem a15.fold2 {α σ:Type} [Inhabited α] {b:MC} {body:Int→α→σ→Option σ} {xs:List α} {s0:σ} {Q:σ→Prop} {isl nsl:Nat} {ke kh:List Nat} {ue:σ→List (Nat×V)} {uh:σ→List Up} {ns:List a4x} [LI b isl nsl ke kh ue uh ns] (hF:Ok (foldL body xs 0 s0) Q)
  (h0:a0q c.H0 ns ⟨e,h⟩ fun σ'=>a0u (ovS e h ke kh ((isl,.int .i64 ((0:Nat):Int))::ue s0) (uh s0)) σ')
  (round:∀(k:Nat) (a:α) (x:σ) (Qn:σ→Prop) (K:St→Prop),(∀σ',(a0q c.H0 ns σ' fun σ'=>∃y,Qn y∧a0u (ovS e h ke kh ((isl,.int .i64 ((k+1:Nat):Int))::ue y) (uh y)) σ')→K σ')→k<xs.length→xs.getD k default=a →
   Ok (body k a x) Qn→(∀{y:V},find nsl (ovS e h ke kh ((isl,.int .i64 k)::ue x) (uh x)).env=some y→y.fact)→M.go ⟨c.P,c.H0,K,M.kX c s,c.R⟩ b [] (ovS e h ke kh ((isl,.int .i64 k)::ue x) (uh x)))
  (stop:∀(x:σ) (K:St→Prop),Q x→M.go ⟨c.P,c.H0,K,M.kX c s,c.R⟩ b [] (ovS e h ke kh ((isl,.int .i64 (xs.length:Int))::ue x) (uh x))):M.go c (.loop b) s ⟨e,h⟩ :=
 M.fold1 isl ke kh ue uh ns hF h0 (fun k a x Qn K h1 h2 h3 h4 h5=>round k a x Qn K h1 h2 h3 h4 fun h=>a1m h5.1 h) stop
theorem g9r {P K:St→Prop} (h:∀σ',P σ'→K σ') {σ:St} (p:P σ):K σ:=h σ p
end
theorem h0n {p:Prop} [Decidable p] {A B:Prop} (h:(decide p=true→A)∧(decide p=false→B)):(p∧A)∨(¬p∧B):=by
 by_cases hp:p
 ·exact .inl ⟨hp,h.1 (wT hp)⟩
 ·exact .inr ⟨hp,h.2 (wG hp)⟩
@[go_sem] def e1x:List (Nat×Nat)→List V→List V
 | [],l=>l
 | (a,b)::r,l=>e1x r (V.swL a b l)
@[go_sem] def e1w:List (Nat×Nat)→V→V
 | [],x=>x
 | (a,b)::r,x=>e1w r (x.sw a b)
@[go_sem] def d0e:List (Nat×Nat)→Heap→Heap
 | [],H=>H
 | (a,b)::r,H=>d0e r (swH a b H)
theorem b0v {P:Program} {f:Nat}:∀(l:List (Nat×Nat)) {args:List V} {H:Heap} {r0:V} {H1:Heap},a0s P f args H (fun r H'=>r=r0∧H'=H1)→a0s P f (e1x l args) (d0e l H) (fun r H'=>r=e1w l r0∧H'=d0e l H1)
 | [],_,_,_,_,h=>h
 | (a,b)::r,_,_,_,_,h=>b0v r (a03 a b h)
class SwA (l:outParam (List (Nat×Nat))):Prop
class SwB (l:outParam (List (Nat×Nat))):Prop
class SwC (l:outParam (List (Nat×Nat))):Prop
section
variable {P:Program} {f:Nat} {l:List (Nat×Nat)} {args:List V} {H:Heap} {r0:V} {H1:Heap}
theorem d0a [SwA l] (h:a0s P f args H (fun r H'=>r=r0∧H'=H1)):a0s P f (e1x l args) (d0e l H) (fun r H'=>r=e1w l r0∧H'=d0e l H1):=b0v l h
theorem d09 [SwB l] (h:a0s P f args H (fun r H'=>r=r0∧H'=H1)):a0s P f (e1x l args) (d0e l H) (fun r H'=>r=e1w l r0∧H'=d0e l H1):=b0v l h
theorem d08 [SwC l] (h:a0s P f args H (fun r H'=>r=r0∧H'=H1)):a0s P f (e1x l args) (d0e l H) (fun r H'=>r=e1w l r0∧H'=d0e l H1):=b0v l h
end
theorem tX {p:Prop} (x:p:=by
 replace h:=tY h
 refine tB ?_
 repeat' (first
 | (exact tZ)
 | ((first|refine b5l h ?_|refine a5u h ?_|refine b5p h ?_|refine b5o h ?_|refine b5u h ?_|refine appG h ?_|refine b5w h ?_|refine fork h ?_ ?_|refine a5w h ?_ ?_)<;>clear h<;>intro hc h)
 | (replace h:=(show d5i _ _=true∧_ from h).2)
 | (refine d4l h (fun hp=>by simpa using hp) ?_ ?_<;>first
  | (clear h;intro hc h;rw [M.lok_eq];replace h:=tY h;refine tB ?_)
  | (clear h;intro h;rw [M.lok_eq];replace h:=tY h;refine tB ?_))
 | (obtain ⟨y,hy,h⟩:=h;have hw:=WI.w hy;replace hw:=tY hw;(first|refine M.sC hw ?_|refine M.sD hw ?_);clear hw hy;refine tB ?_)
 | (obtain ⟨y,hy,h⟩:=h;have hw:=d0a (WI.w hy);replace hw:=tY hw;(first|refine M.sC hw ?_|refine M.sD hw ?_);clear hw hy;refine tB ?_)
 | (obtain ⟨y,hy,h⟩:=h;have hw:=d09 (WI.w hy);replace hw:=tY hw;(first|refine M.sC hw ?_|refine M.sD hw ?_);clear hw hy;refine tB ?_)
 | (obtain ⟨y,hy,h⟩:=h;have hw:=d08 (WI.w hy);replace hw:=tY hw;(first|refine M.sC hw ?_|refine M.sD hw ?_);clear hw hy;refine tB ?_)
 | ((first|show b2x _ (fnV _) _ _ _ _ _|show b3r _ (fnV _) _ _ _ _ _);rcases h0n h with ⟨hc,h⟩|⟨hc,h⟩<;>first|exact False.elim h|(simp only [hc];replace h:=tY h;refine tB ?_)|skip)
 | (refine M.jn2 h ?_ ?_<;>first
  | (clear h;intro Qn K hK h;replace h:=tY h;refine tB ?_)
  | (clear h;intro y h;refine M.go_un (by with_unfolding_all (conv=>lhs;whnf);try exact rfl) ?_;replace h:=tY h;refine tB ?_))
 | (refine M.jnE2 h ?_ ?_<;>first
  | (clear h;intro Qn K hK h;replace h:=tY h;refine tB ?_)
  | (clear h;intro y h;refine M.go_un (by with_unfolding_all (conv=>lhs;whnf);try exact rfl) ?_;replace h:=tY h;refine tB ?_))
 | (refine M.gv2 h ?_ ?_<;>first
  | (clear h;intro K hK;refine M.ops_un (by with_unfolding_all (conv=>lhs;whnf);try exact rfl) ?_;refine tB ?_)
  | (clear h;intro b h;replace h:=tY h;refine tB ?_))
 | (refine M.gj2 h ?_ ?_<;>first
  | (clear h;intro Qn K hK h;refine M.ops_un (by with_unfolding_all (conv=>lhs;whnf);try exact rfl) ?_;replace h:=tY h;refine tB ?_)
  | (clear h;intro y h;replace h:=tY h;refine tB ?_))
 | (refine M.wh2 h ?_ ?_<;>first
  | (clear h;intro x Qn K hK h;refine M.go_un (by with_unfolding_all (conv=>lhs;whnf);try exact rfl) ?_;replace h:=tY h;refine tB ?_)
  | (clear h;(try refine tB ?_);exact tU0;done))
 | ((first|refine M.for2 h ?_ ?_ ?_|refine M.fold2 h ?_ ?_ ?_)<;>first
  | (clear h;(try (have ha3:=ha2;clear ha2));(try (have ha2:=ha1;clear ha1));(try (have ha1:=ha;clear ha));intro k a x Qn K hK hkN ha h hl;(first|have hl:=a4o (hl rfl)|skip);have hkd:=kD hkN;have hkB:=kB hkN;have hkI:=kI (k:=k) (by (try simp only [wA,wM] at hkN);omega);clear hl;refine M.go_un (by with_unfolding_all (conv=>lhs;whnf);try exact rfl) ?_;replace h:=tY h;refine tK ha hkd hkN hkB hkI ?_)
  | (clear h;intro x K h;replace h:=And.left (And.intro h trivial);refine M.go_un (by with_unfolding_all (conv=>lhs;whnf);try exact rfl) ?_;replace h:=tY h;refine tB ?_)
  | (clear h;(try refine tB ?_);exact tU0;done))
 | (simp only [ha])|(simp only [ha1])|(simp only [ha2])|(simp only [ha3])
 | (exact absurd (hc.symm.trans (by assumption:_=true)) xK)
 | (exact absurd (hc.symm.trans (by assumption:_=false)) xK.symm)
 | (refine g9r (by assumption) ?_;first|((try refine tB ?_);refine ⟨_,h,?_⟩;(first|(exact tU0;done)|(exact tU;done)))|(exact tU;done))
 | (refine e0g (fun hc=>?_) (fun hc=>?_))
 | (refine tE ?_;(first|rw [M.lok_compU]|rw [M.lokD_compU]);refine tB ?_)
 | (refine ⟨_,g7h (by first|exact a2k (by assumption)|exact a9d (by assumption)|assumption) rfl,?_⟩;(first|rw [M.lok_compU]|rw [M.lokD_compU]);refine tB ?_)
 | (refine ⟨_,g7g (by first|exact a2k (by assumption)|exact a9d (by assumption)|assumption),?_⟩;(first|rw [M.lok_compU]|rw [M.lokD_compU]|(simp only [V.cells,xC,wU];first|rw [M.lok_comp]|rw [M.lokD_comp]));refine tB ?_)
 | (refine ⟨_,b4q (by first|exact a2k (by assumption)|exact a9d (by assumption)),?_⟩;(first|rw [M.lok_compU]|rw [M.lokD_compU]|(simp only [V.cells];first|rw [M.lok_comp]|rw [M.lokD_comp]));refine tB ?_)
 | (refine tA ?_)|fail)):p:=x
end Go.Ab
namespace Go.Ab
open Go.RowKit
@[irreducible] def cJ {k:IntKind} {n:Int}:V:=.int k n
@[irreducible] def cS {s:List UInt8}:V:=.str s
theorem e07 {k:IntKind} {n:Int}:@cJ k n=.int k n:=by unfold cJ;rfl
theorem f1u {s:List UInt8}:@cS s=.str s:=by unfold cS;rfl
mutual
def zv (b:Bool):Value→V
 | .bool c=>.bool c
 | .int k n=>@cJ k n
 | .string ⟨⟨l⟩⟩=>@cS l
 | .slice _ _ _=>bif b then .nils else .sl []
 | .pointer _=>.nilp
 | .map _=>.nilm
 | .nilFunc=>.nilf
 | .nilIface=>bif b then .nili else .ifc true
 | .agg ⟨l⟩=>.agg (zvs b l)
 | _=>.any
def zvs (b:Bool):List Value→List V
 | []=>[]
 | v::r=>zv b v::zvs b r
end
def co (b:Bool):Operand→Opd
 | .tmp n=>.t n
 | .const v=>.c (zv b v)
 | .func f=>.f f
 | .global _=>.c .any
def cos (b:Bool):List Operand→List Opd
 | []=>[]
 | x::r=>co b x::cos b r
def coO:Option Operand→Option Opd
 | none=>none
 | some x=>some (co false x)
section
variable (P:Program)
def tz (b:Bool) (t:TypeId):V:=match P.info? t with
 | some i=>match i.zero with
  | some v=>zv b v
  | none=>.any
 | none=>.any
def tzc (b:Bool) (t:TypeId):List V:=match P.info? t with
 | some i=>match i.zero with
  | some (.agg ⟨l⟩)=>zvs b l
  | some v=>[zv b v]
  | none=>[]
 | none=>[]
def tsz (t:TypeId):Nat:=match P.info? t with
 | some i=>i.size
 | none=>0
def tby (t:TypeId):Nat:=match P.info? t with
 | some i=>i.bytes
 | none=>0
def tag (t:TypeId):Option Nat:=match P.underlying t with
 | some (.struct _)|some (.array _ _)=>some (tsz P t)
 | _=>none
def tel (t:TypeId):TypeId:=match P.underlying t with
 | some (.slice e)|some (.array _ e)=>e
 | _=>0
def tkd (t:TypeId):KD:=match P.underlying t with
 | some (.map k _)=>match P.underlying k with
  | some (.int i)=>.int i
  | some .string=>.str
  | _=>.bool
 | _=>.bool
def tmv (t:TypeId):TypeId:=match P.underlying t with
 | some (.map _ e)=>e
 | _=>0
def cps (b:Bool) (fs:List Field):List (Nat×Operand)→List (Nat×Nat×Opd)
 | []=>[]
 | (i,x)::r=>(match fs[i]? with
  | some f=>(f.offset,tsz P f.type,co b x)
  | none=>(0,0,co b x))::cps b fs r
def ks0 (rec:List Field→List Nat):List Field→List Nat
 | []=>[]
 | f::r=>(match P.underlying f.type with
  | some (.int _)=>[0]
  | some .string=>[1]
  | some .bool=>[2]
  | some (.struct ⟨fs⟩)=>rec fs
  | _=>[])++ks0 rec r
def ksN:Nat→List Field→List Nat
 | 0=>fun _=>[]
 | n+1=>ks0 P (ksN n)
def f1r:BinOp→Bool
 | .neq=>true
 | _=>false
def h0f:BinOp→Bool
 | .add|.sub|.mul=>true
 | _=>false
def h0e:BinOp→Bool
 | .quo|.rem=>true
 | _=>false
def g00 (x y:Opd):a0a:=.mv (.c .any)
def g06 (l:List Opd):a0a:=.mv (.c .any)
def g04 (l:List Opd):a0a:=.mv (.c .any)
def g07 (b:Bool) (x:Opd):a0a:=.mp (.isn b) [x]
def g08 (b:Bool) (x:Opd):a0a:=.mp (.ifz b) [x]
def g0a (b:Bool) (x:Opd):a0a:=.mp (.fnz b) [x]
def g03 (x:Opd):a0a:=.mv (.c .any)
def g0c (n:Nat) (x y:Opd):a0a:=.mv (.c .any)
def g0d (f:Nat) (l:List Opd):a0a:=.mv (.c .any)
def g0f (n b:Nat) (x y:Opd):a0a:=.mp (.apc n b) [x,y]
def g02 (x:Opd):a0a:=.mv (.c .any)
def e3s (x:Opd):a0a:=.mv (.c .any)
def g0e (x:Opd):a0a:=.mv (.c .any)
def g05 (x:Opd):a0a:=.mv (.c .any)
def g09 (x:Opd):a0a:=.mv (.c .any)
def g01 (x:Opd) (a b:Option Opd):a0a:=.sls x a b
def g0b (n:Option Nat) (o:Nat) (x:Opd):a0a:=.mv (.c .any)
def g0g (k n:Nat) (x y:Opd):a0a:=.mv (.c .any)
def lg2 (n:Int):Nat→Option Nat
 | 0=>none
 | f+1=>if n=1 then some 0 else if n % 2=0 then (lg2 (n / 2) f).map (·+1) else none
def h0o (wr:Bool) (o:BinOp) (t:TypeId) (x y:Operand):a0a:=match P.underlying t with
 | some (.int k)=>match (match o,y with
   | .and,.const (.int _ n)=>(match lg2 (n+1) 64 with|some m=>bif Nat.blt m k.bits then some m else none|none=>none)
   | _,_=>none) with
  | some m=>.mask m (co false x) k
  | none=>.bin (!wr&&(h0e o||(h0f o&&kEq k .i64))) o (co false x) (co false y)
 | some .string=>.bin false o (co false x) (co false y)
 | some .bool=>.beq (f1r o) (co false x) (co false y)
 | some (.struct ⟨fs⟩)=>.eqs (f1r o) (ksN P 4 fs) (co false x) (co false y)
 | some (.slice _)=>g07 (f1r o) (co false x)
 | some (.interface _)=>g08 (f1r o) (co false x)
 | some (.func _ _ _)=>g0a (f1r o) (co false x)
 | _=>.mv (.c .any)
def wide (a b:IntKind):Bool:=kEq a b||(Nat.blt a.bits b.bits&&(!a.signed||b.signed))
def ccv (lit:Bool) (a b:TypeId) (x:Opd):a0a:=match P.underlying a,P.underlying b with
 | some (.int i),some (.int j)=>.i2i (wide i j) j x
 | some (.int _),some .string=>g03 x
 | some .string,some .string=>g09 x
 | some .string,some (.slice _)=>bif lit then e3s x else g02 x
 | some (.slice _),some .string=>g0e x
 | some (.slice _),some (.slice _)=>g05 x
 | _,_=>.mv (.c .any)
def c2 (l:List (Nat×Operand)):List Operand:=l.map (·.2)
def ci (k:Nat) (ids news:List Nat):Op→a0a
 | .move x|.assign x=>.mv (co (Nat.beq k 1) x)
 | .pick c a b=>.pick (co false c) (co false a) (co false b)
 | .alloc e=>.alloc (tzc P (Nat.beq k 1||Nat.beq k 8) e) (bif Nat.ble 7 k then some e else none)
 | .box _ x=>.box (co false x)
 | .build t ⟨ps⟩=>(match P.underlying t with
  | some (.struct ⟨fs⟩)=>.build (tzc P (Nat.beq k 1) t) (cps P (Nat.beq k 1) fs ps)
  | _=>.barr (tsz P (tel P t)) (tzc P false t) (cos false (c2 ps)))
 | .buildSlice t _ ⟨ps⟩=>bif Nat.beq k 2 then .lsl (tsz P (tel P t)) (cos false (c2 ps)) else bif Nat.beq k 4 then g06 (cos false (c2 ps)) else .bslice (tsz P (tel P t)) (cos false (c2 ps)) (Nat.beq k 3)
 | .load t x=>bif Nat.ble 100 k then .mp (.tab (k - 100)) [] else .ld (tag P t) (co false x)
 | .store t x y=>bif Nat.beq k 4 then g00 (co false x) (co false y) else .st (tsz P t) (co false x) (co false y)
 | .nilCheck x=>.nck (co false x)
 | .binOp o t x y _=>h0o P (Nat.beq k 6) o t x y
 | .unOp .not _ x=>.not (co false x)
 | .unOp .neg t x=>.neg (match P.underlying t with|some (.int i)=>kEq i .i64|_=>false) (co false x)
 | .convert a b x=>ccv P (Nat.beq k 2) a b (co false x)
 | .makeFunc (.func f) ⟨a⟩ ⟨b⟩=>(match a with|[]=>.mkfn f (cos false b)|a=>g0d f (cos false a))
 | .makeMap t _=>.mp (.mk (tkd P t)) []
 | .lookup t x y c=>.mp (.lku (tkd P t) c (tz P false (tmv P t))) [co false x,co false y]
 | .mapUpdate t x y z|.insert t x y z=>.mp (bif Nat.beq k 4 then .ups (tkd P t) else .up (tkd P t)) [co false x,co false y,co (Nat.beq k 1) z]
 | .range _ x=>.mp .rng [co false x]
 | .next x _=>.mp .nxt [co false x]
 | .entry x=>.mp .ent [co false x]
 | .makeSlice t x y=>.mksl (tsz P (tel P t)) (tby P (tel P t)) (tz P false (tel P t)) (co false x) (co false y)
 | .slice t x lo hi _=>(match P.underlying t with
  | some .string=>g01 (co false x) (coO lo) (coO hi)
  | _=>.slc (tsz P (tel P t)) (co false x) (coO lo) (coO hi))
 | .fieldAddr t x f=>(match P.underlying t with
  | some (.struct fs)=>(match fs[f]? with|some fl=>.fad fl.offset (co false x)|none=>.mv (.c .any))
  | _=>.mv (.c .any))
 | .field t x f=>(match P.underlying t with
  | some (.struct fs)=>(match fs[f]? with|some fl=>g0b (tag P fl.type) fl.offset (co false x)|none=>.mv (.c .any))
  | _=>.mv (.c .any))
 | .indexAddr t x y=>(match P.underlying t with
  | some (.array n e)=>g0g (tsz P e) n (co false x) (co false y)
  | _=>.iad (tsz P (tel P t)) (co false x) (co false y))
 | .index t x y=>(match P.underlying t with
  | some (.array n e)=>.aix (tag P e) (tsz P e) n (co false x) (co false y)
  | _=>.idx (co false x) (co false y))
 | .extract x i=>.ext i (co false x)
 | .call ⟨.value f,⟨xs⟩,_⟩=>.call (co false f) (cos (Nat.beq k 1) xs) ids news
 | .call ⟨.builtin b,⟨xs⟩,⟨ts⟩⟩=>(match b,xs,ts with
  | .len,[x],t::_=>(match P.underlying t with
   | some (.map _ _)=>.mp .len [co false x]
   | some .string=>.len true (co false x)
   | _=>.len false (co false x))
  | .append,[x,y],t::_=>bif Nat.beq k 5 then g0f (tsz P (tel P t)) (tby P (tel P t)) (co false x) (co false y) else
    .app (tsz P (tel P t)) (tby P (tel P t)) (match x with|.const _=>.c .nils|_=>co false x) (co false y) (bif Nat.beq k 7 then some (tel P t) else none)
  | .copy,[x,y],t::_=>g0c (tsz P (tel P t)) (co false x) (co false y)
  | .delete,[x,y],t::_=>.mp (.del (tkd P t)) [co false x,co false y]
  | .max,[x,y],_=>.mm true (co false x) (co false y)
  | .min,[x,y],_=>.mm false (co false x) (co false y)
  | .max,[x,y,z],_=>g04 [co false x,co false y,co false z]
  | _,_,_=>.mv (.c .any))
 | _=>.mv (.c .any)
inductive RA where
 | k (j n:Nat)
 | c (j n:Nat) (ids news:List Nat)
 | n (j:Nat) (n:a4x)
 | v (j l:Nat)
 | u (j l:Nat) (m:List MOp)
 | w (j l t:Nat)
structure RN where
 nt:List a4x
 tw:List RA
 it:List RA
def cgd (all:List Oper):Option (Nat×Bool)→Option (Nat×Bool)
 | none=>none
 | some (j,w)=>match all[j]? with
  | some o=>(match o.dst with|some d=>some (d,w)|none=>none)
  | none=>none
def cop (all:List Oper) (k:Nat) (ids news:List Nat) (o:Oper):MOp:=⟨ci P k ids news o.op,o.dst,cgd all o.guard⟩
def cms (all:List Oper) (j:Nat) (tw:List RA):List Oper→List MOp
 | []=>[]
 | o::r=>match tw with
  | .k i n::tw'=>bif Nat.beq i j then cop P all n [] [] o::cms all (j+1) tw' r else cop P all 0 [] [] o::cms all (j+1) tw r
  | .c i n ids news::tw'=>bif Nat.beq i j then cop P all n ids news o::cms all (j+1) tw' r else cop P all 0 [] [] o::cms all (j+1) tw r
  | _=>cop P all 0 [] [] o::cms all (j+1) [] r
def ntO (j:Nat):List RA→List It
 | .n i n::rs=>bif Nat.beq i j then .nt n::ntO j rs else []
 | _=>[]
def ntR (j:Nat):List RA→List RA
 | .n i n::rs=>bif Nat.beq i j then ntR j rs else .n i n::rs
 | rs=>rs
@[irreducible] def gjt (t:Nat) (ms:List MOp):List MOp:=ms
@[irreducible] def gvt (d:Nat) (ds:List Nat) (ms:List MOp):List MOp:=ms
instance {d:Nat} {ds:List Nat} {ms:List MOp}:GV (gvt d ds ms) d ds:=⟨⟩
def gvd:List MOp→Nat
 | []=>0
 | [m]=>m.dst.getD 0
 | _::r=>gvd r
def gvs:List MOp→List Nat
 | []=>[]
 | [_]=>[]
 | m::r=>m.dst.getD 0::gvs r
def cit (j sk:Nat) (rs:List RA):List MOp→List It
 | []=>ntO j rs
 | m::r=>bif Nat.blt 0 sk then cit (j+1) (sk - 1) rs r else ntO j rs++(match ntR j rs with
  | .v i l::rs'=>bif Nat.beq i j then .grp (gvt (gvd ((m::r).take (l+1 - j))) (gvs ((m::r).take (l+1 - j))) ((m::r).take (l+1 - j)))::cit (j+1) (l - j) rs' r else .op m::cit (j+1) 0 (.v i l::rs') r
  | .u i l b::rs'=>bif Nat.beq i j then .grp b::cit (j+1) (l - j) rs' r else .op m::cit (j+1) 0 (.u i l b::rs') r
  | .w i l t::rs'=>bif Nat.beq i j then .grp (gjt t ((m::r).take (l+1 - j)))::cit (j+1) (l - j) rs' r else .op m::cit (j+1) 0 (.w i l t::rs') r
  | rs'=>.op m::cit (j+1) 0 rs' r)
def g7c (o:Oper):List Nat:=(o.after.toList.filter (Region.binds .any)).map (·.on)
def orM (ms:List Nat):List Nat→Nat→Nat
 | [],a=>a
 | x::r,a=>orM ms r (a||| (1 <<< x)||| ms.getD x 0)
def cmk (ms:List Nat):List (List Nat)→List Nat
 | []=>ms
 | a::r=>cmk (ms++[orM ms a 0]) r
def e0f (m:Nat):Nat→Nat→List Nat
 | _,0=>[]
 | i,n+1=>bif m.testBit i then i::e0f m (i+1) n else e0f m (i+1) n
def h0g:MOp→Bool
 | ⟨.app ..,_,_⟩=>true
 | _=>false
def isLd:MOp→Bool
 | ⟨.ld ..,_,_⟩=>true
 | _=>false
def d94 (m:Nat):Nat→List MOp→Nat→List Nat
 | _,[],_=>[]
 | _,_,0=>[]
 | i,x::r,n+1=>bif isLd x&&!m.testBit i then (1000000+i)::d94 m (i+1) r n else d94 m (i+1) r n
def g7b (all:List MOp) (j:Nat):List MOp→List Nat→List (List Nat)
 | x::r,m::s=>(e0f m 0 j++(bif h0g x then d94 m 0 all j else []))::g7b all (j+1) r s
 | _,_=>[]
def crg (n:RN) (ops:List Oper) (draw:Bool):MC:=match draw,n.it with
 | true,_=>.regD (cms P ops 0 n.tw ops) (ops.map g7c) (g7b (cms P ops 0 n.tw ops) 0 (cms P ops 0 n.tw ops) (cmk [] (ops.map g7c)))
 | _,[]=>.reg (cms P ops 0 n.tw ops)
 | _,it=>.regI (cit 0 0 it (cms P ops 0 n.tw ops))
def fnd {α:Type} (k:Nat):List (Nat×α)→Option α
 | []=>none
 | (i,x)::r=>bif Nat.beq i k then some x else fnd k r
def fst:Code→Option Nat
 | .region i _ _=>some i
 | .seq a b=>(match fst a with|none=>fst b|x=>x)
 | .cond _ a b=>(match fst a with|none=>fst b|x=>x)
 | .block _ b=>fst b
 | .loop b=>(fst b).map (·+1000000)
 | .rangeFunc _ _ a b=>((match fst a with|none=>fst b|x=>x)).map (·+1000000)
 | _=>none
def kF (c:Code):Nat:=(fst c).getD 0
def cg (A:List (Nat×RN)) (C:List (Nat×MC)):Code→MC
 | .skip=>.skip
 | .ret=>.ret
 | .exit i=>.exit i
 | .region i ⟨ops⟩ d=>(match fnd (i+20000000) C with
  | some c=>c
  | none=>match fnd i A with
   | some n=>n.nt.foldr .note (crg P n ops d)
   | none=>crg P ⟨[],[],[]⟩ ops d)
 | .seq a b=>(match fnd (kF b+10000000) C with
  | some c=>.cut (cg A C a) c
  | none=>.seq (cg A C a) (cg A C b))
 | .cond c a b=>.cond (co false c) (cg A C a) (cg A C b)
 | .block i b=>.block i (cg A C b)
 | .loop b=>(match fnd (kF b+30000000) A with|some n=>n.nt|none=>[]).foldr .note (.loop ((fnd (kF b) C).getD .no))
 | .rangeFunc f ps a b=>(match fnd (kF b+30000000) A with|some n=>n.nt|none=>[]).foldr .note (.rngF (co false f) ps.toList (cg A C a) ((fnd (kF b) C).getD .no))
 | _=>.no
def sbc (k:Nat):Code→Option Code
 | .seq a b=>bif Nat.beq k (kF b+10000000) then some b else match sbc k a with|none=>sbc k b|x=>x
 | .cond _ a b=>(match sbc k a with|none=>sbc k b|x=>x)
 | .block _ b=>sbc k b
 | .loop b=>bif Nat.beq k (kF b) then some b else sbc k b
 | .rangeFunc _ _ a b=>bif Nat.beq k (kF b) then some b else match sbc k a with|none=>sbc k b|x=>x
 | _=>none
def sbr (k:Nat):Code→Option (List Oper)
 | .region i ops _=>bif Nat.beq k i then some ops.toList else none
 | .seq a b|.cond _ a b|.rangeFunc _ _ a b=>(match sbr k a with|none=>sbr k b|x=>x)
 | .block _ b|.loop b=>sbr k b
 | _=>none
def cT (f:Func) (A:List (Nat×RN)) (C:List (Nat×MC)):MC:=cg P A C (f.body.getD .skip)
def cK (f:Func) (A:List (Nat×RN)) (C:List (Nat×MC)) (k:Nat):MC:=(sbc k (f.body.getD .skip)).elim .no (cg P A C)
def cG (f:Func) (A:List (Nat×RN)) (r j l:Nat):List MOp:=(sbr r (f.body.getD .skip)).elim [] fun ops=>((cms P ops 0 ((fnd r A).elim [] (·.tw)) ops).drop j).take (l+1 - j)
end
@[reducible,go_sem] def rdc {α:Type} (x:α) {y:α} (h:x=y:=by conv=>lhs;reduce;(try simp only [e07,f1u,List.append_eq,wC,wJ])):α:=y
def crs (P:Program) (f:Func):List RS:=f.results.toList.map fun r=>match r with
 | .tmp t=>.t t
 | .cell a t=>.c a (tag P t)
theorem wX {α:Type} {F:Option α} {P:Program} {f:Nat} {fn:Func} {args:List V} {H:Heap} {RV:α→V} {HV:α→Heap} (hf:P.funcs[f]?=some fn) (A:List (Nat×RN):=[]) (C:List (Nat×MC):=[]) (ns:List a4x:=[]) (rids:List Nat:=[]) {mc:MC} {rs:List RS}
  (he:cT P fn A C=mc:=by conv=>lhs;reduce;(try simp only [e07,f1u,List.append_eq,wC,wJ])) (hr:crs P fn=rs:=by conv=>lhs;reduce;(try simp only [e07]))
  (h:∀(Q:α→Prop) (Q':V→Heap→Prop),Ok F Q→(∀z,Q z→Q' (RV z) (HV z))→∀M:a15,M.go ⟨P,H,a2i H ns rids rs Q',fun _ _=>False,a2i H ns rids rs Q'⟩ mc [] ⟨a4q 0 args,H⟩) (hb:fn.body=some (fn.body.getD .skip):=by rfl) (hc:callable P f=true:=by kernel_rfl)
  (hok:mc.ok P fn.ntmps (fn.body.getD .skip)=true:=by kernel_rfl) (hnh:mc.nh=true:=by kernel_rfl) (hrs:a6u P rs fn.results.toList=true:=by kernel_rfl) (hn:Nat.ble args.length fn.ntmps=true:=by rfl) (hg:St.good ⟨a4q 0 args,H⟩=true:=by rfl):WI F P f args H RV HV :=
 ⟨fun Q Q' h1 h2=>a2m mc ns rids rs hf (h Q Q' h1 h2) hb hc hok hnh hrs hn hg⟩
theorem c5y {P:Program} {f k:Nat} {xs:List V} {t:Option TypeId} {args:List V} {y:Str} (h:a0s P f (.sl xs::args) [] (fun r H=>r=.str y∧H=[])) :
  a0s P f (.osl 1000 k 0 xs.length::args) [(1000,.arr k xs t)] (fun r H=>r=.str y∧H=[(1000,.arr k xs t)]):=by
 refine a1l ⟨.str y,[],[]⟩ h.1 fun g w vals hH hl hv=>?_
 have ho:=hH.obj 1000 _ rfl
 have hH1:a3p P (g.sealed 1000) w []:=by
  refine ⟨fun n o hn=>by simp [find] at hn,fun i j o1 o2 hi _ _ _ _=>by simp [find] at hi,fun n o hn=>by simp [find] at hn,fun b hb=>?_,fun w' hk=>hH.tabs w' fun b hb=>hk b (.inl hb)⟩
  rcases hb with hb|⟨hn,rfl⟩
  ·exact hH.lt b hb
  ·exact ho.block hn
 refine (h.2 (g.sealed 1000) w vals hH1 (by simpa using hl) fun i x hx=>?_).mono ?_
 ·cases i with
  | zero =>
   simp only [List.getElem?_cons_zero,xO] at hx;subst hx
   have h1:=hv 0 (.osl 1000 k 0 xs.length) rfl
   have h2:=VR.shut ho h1 (by simp [V.sealOK])
   simpa [V.shut] using h2
  | succ i=>exact (hv (i+1) x (by simpa using hx)).mono (g':=g.sealed 1000) (fun _ _=>rfl) (fun b (h:g.S b)=>Or.inl h) fun id _=>a08 g 1000 id
 ·rintro en w' ⟨v,r,H',g',rfl,⟨rfl,rfl⟩,_,hr,hf,_⟩
  refine ⟨v,g,rfl,a09.grown _ [] hH.lt hf.os hf.tape hf.output hf.size fun b hb _=>hf.old b hb fun ⟨id,o,ho,_⟩=>by simp [find] at ho,a13.none _ _,?_⟩
  obtain ⟨q,rfl,rfl,hq⟩:=hr.str_inv
  exact .rd (.str q hq)
mutual
def V.lf (R:Heap):V→Bool
 | .bool _|.int _ _|.str _|.nils|.nilp|.nilm|.nilf|.nili|.ifc _|.sl []=>true
 | .osl id _ _ _=>a0t id R
 | .agg cs|.tup cs=>V.lfL R cs
 | _=>false
def V.lfL (R:Heap):List V→Bool
 | []=>true
 | x::r=>x.lf R&&V.lfL R r
end
theorem V.lfL_iff {R:Heap}:∀{l:List V},V.lfL R l=true→∀x∈l,x.lf R=true
 | y::r,h,x,hx=>by
  simp only [V.lfL,wE] at h
  rcases wY.1 hx with rfl|hx
  ·exact h.1
  ·exact V.lfL_iff h.2 x hx
theorem Rd.lf {S S':Nat→Prop} {w:World} {R:Heap} {v:Value} {x:V} (h:Rd S w v x):x.lf R=true→Rd S' w v x:=by
 induction h with
 | agg vs cs hl hr ih=>exact fun hx=>.agg vs cs hl fun i c hc=>ih i c hc (V.lfL_iff (by simpa only [V.lf] using hx) c (z6 hc))
 | bool b=>exact fun _=>.bool b
 | int k n h=>exact fun _=>.int k n h
 | str s h=>exact fun _=>.str s h
 | nils=>exact fun _=>.nils
 | nilsl=>exact fun _=>.nilsl
 | slz a cap=>exact fun _=>.slz a cap
 | nilp=>exact fun _=>.nilp
 | nilm=>exact fun _=>.nilm
 | nilf=>exact fun _=>.nilf
 | nili=>exact fun _=>.nili
 | ifcn=>exact fun _=>.ifcn
 | ifcs t p=>exact fun _=>.ifcs t p
 | sl g o len cap k cur e fz xs h1 h2 h3 h4 h5 h6 h7 h8 _ =>
  intro hx
  cases xs with
  | nil=>cases h3;exact .slz _ _
  | cons a r=>simp [V.lf] at hx
 | _=>intro hx;simp [V.lf] at hx
theorem VR.lf {g g':Gh} {w:World} {R:Heap} {v:Value} {x:V} (h:VR g w v x) (ha:∀id,a0t id R=true→g.agree g' id):x.lf R=true→VR g' w v x:=by
 induction h with
 | rd h=>exact fun hx=>.rd (h.lf hx)
 | agg vs cs hl hr ih=>exact fun hx=>.agg vs cs hl fun i c hc=>ih i c hc (V.lfL_iff (by simpa only [V.lf] using hx) c (z6 hc))
 | tup vs cs hl hr ih=>exact fun hx=>.tup vs cs hl fun i c hc=>ih i c hc (V.lfL_iff (by simpa only [V.lf] using hx) c (z6 hc))
 | oslnil id k lo h=>exact fun hx=>.oslnil id k lo ((ha id (by simpa only [V.lf] using hx)).2.2.2.2 h)
 | osl id k lo len o c h ho hc hl hm =>
  intro hx
  obtain ⟨h1,h2,h3,h4⟩:=ha id (by simpa only [V.lf] using hx)
  rw [←h1]
  exact .osl id k lo len o c (fun h'=>h (h4.1 h')) (by rw [h2];exact ho) (by rw [h3];exact hc) hl hm
 | _=>intro hx;simp [V.lf] at hx
theorem c60 {P:Program} {f n k:Nat} {xs:List V} {t:Option TypeId} {args:List V} {r:V} {R:Heap} (h:a0s P f (args.map (V.shut n xs)) [] (fun r' H'=>r'=r∧H'=R))
  (hok:∀x∈args,x.sealOK n k xs.length) (hr:r.lf R=true) (hRn:find n R=none) (hR:∀id o,find id R=some o→∃k ys t,o=.arr k ys t∧∀y∈ys,∀c∈y.cells,c.lf []=true) :
  a0s P f args [(n,.arr k xs t)] (fun r' H'=>r'=r∧H'=(n,.arr k xs t)::R):=by
 refine ⟨h.1,fun g w vals hH hl hv=>?_⟩
 have hfn:find n [(n,a0i.arr k xs t)]=some (.arr k xs t):=by simp [find]
 have only:∀{m:Nat} {o':a0i},find m [(n,a0i.arr k xs t)]=some o'→m=n∧o'=.arr k xs t:=fun {m o'} hm=>by
  simp only [find] at hm
  cases hni:Nat.beq m n with
  | false=>rw [hni] at hm;cases hm
  | true=>rw [hni] at hm;cases hm;exact ⟨zR hni,rfl⟩
 have ho:=hH.obj n _ hfn
 have hH1:a3p P (g.sealed n) w []:=by
  refine ⟨fun n o hn=>by simp [find] at hn,fun i j o1 o2 hi _ _ _ _=>by simp [find] at hi,fun n o hn=>by simp [find] at hn,fun b hb=>?_,fun w' hk=>hH.tabs w' fun b hb=>hk b (.inl hb)⟩
  rcases hb with hb|⟨hn,rfl⟩
  ·exact hH.lt b hb
  ·exact ho.block hn
 refine (h.2 (g.sealed n) w vals hH1 (by simpa using hl) fun i x hx=>?_).mono ?_
 ·rw [xQ] at hx
  cases hi:args[i]? with
  | none=>rw [hi] at hx;cases hx
  | some y=>rw [hi] at hx;cases hx;exact VR.shut ho (hv i y hi) (hok y (z6 hi))
 ·rintro en w' ⟨v,r',H',g',rfl,⟨er,eR⟩,hh,hvr,hf,_⟩
  rw [er] at hvr;rw [eR] at hh hf;clear er eR
  have noM:∀b,¬(⟨w,g.sealed n,[],0,[],[],[],g.sealed n,w⟩:Ctx).M b:=fun b ⟨id,o,ho,_⟩=>by cases ho
  have hold:∀b,b<w.heap.size→w'.heap[b]?=w.heap[b]?:=fun b hb=>hf.old b hb (noM b)
  have hkeep:a2e g.S w w':=fun b hb=>hold b (hH.lt b hb)
  have hsup:∀b,g.S b→g'.S b:=fun b hb=>hf.sup b (.inl (.inl hb))
  obtain ⟨g2,hg2⟩:∃g2:Gh,g2=⟨g.S,fun i=>bif a0t i R then g'.ρ i else g.ρ i,fun i=>bif a0t i R then g'.base i else g.base i,fun i=>bif a0t i R then g'.cap i else g.cap i,fun i=>bif a0t i R then g'.nil i else g.nil i⟩:=⟨_,rfl⟩
  have e0:g2.S=g.S:=by rw [hg2]
  have ein:∀i,a0t i R=true→g'.agree g2 i:=fun i hi=>by rw [hg2];simp [Gh.agree,hi]
  have eout:∀i,a0t i R=false→g.agree g2 i:=fun i hi=>by rw [hg2];simp [Gh.agree,hi]
  have hnR:a0t n R=false:=by
   cases hb:a0t n R with
   | false=>rfl
   | true=>obtain ⟨o,ho⟩:=a3m.1 hb;rw [hRn] at ho;cases ho
  have hfind:∀{m:Nat} {o:a0i},find m ((n,a0i.arr k xs t)::R)=some o→(m=n∧o=.arr k xs t)∨(m≠n∧find m R=some o∧a0t m R=true):=fun {m o} hm=>by
   simp only [find] at hm
   cases hni:Nat.beq m n with
   | true=>rw [hni] at hm;cases hm;exact .inl ⟨zR hni,rfl⟩
   | false=>rw [hni] at hm;exact .inr ⟨fun e=>(by rw [e,vC] at hni;cases hni),hm,a3m.2 ⟨_,hm⟩⟩
  have new:∀{m:Nat} {o:a0i},find m R=some o→¬g'.nil m→w.heap.size≤g'.ρ m:=fun {m o} hm hn=>(hf.own m o hm hn).1.resolve_right (noM _)
  have hnb:¬g.nil n→g.ρ n<w.heap.size:=fun hn=>ho.block hn
  have an:=eout n hnR
  refine ⟨v,r,_,g2,rfl,⟨rfl,rfl⟩,⟨fun m o hm=>?_,fun i j o1 o2 hi hj hni hnj heq=>?_,fun m o hm hnn hs=>?_,fun b hb=>?_,fun w2 hk=>?_⟩,hvr.lf ein hr,
   ⟨hf.os,hf.tape,hf.output,hf.size,fun b hb _=>hold b hb,fun m o hm hnn=>⟨?_,fun _ hn=>by cases hn⟩,fun b (hb:g.S b∨g.S b)=>by rw [e0];exact hb.elim id id,fun b hb=>⟨.inl (by rw [←e0];exact hb),fun _ hn=>by cases hn⟩,fun m o hm=>?_⟩,fun id hid=>?_⟩
  ·rcases hfind hm with ⟨rfl,rfl⟩|⟨_,hm,hi⟩
   ·refine ho.mono hkeep (fun b hb=>by rw [e0];exact hb) an (fun hn=>hold _ (hnb hn)) (fun i hi=>by simp [a0i.has] at hi) hf.size
   ·obtain ⟨k2,ys,t2,rfl,hys⟩:=hR m o hm
    obtain ⟨a1,a2,a3,a4⟩:=ein m hi
    rcases hh.obj m _ hm with ⟨q1,q2⟩|⟨q1,q2⟩
    ·exact .inl ⟨a4.2 q1,q2⟩
    ·refine .inr ⟨fun h=>q1 (a4.1 h),?_⟩
     rw [a1,a2,a3]
     obtain ⟨k1,⟨cur,e,fz,h2,h3,h4,h5⟩,h6,h7,h8⟩:=q2
     exact ⟨k1,⟨cur,e,fz,h2,h3,h4,fun i j x c hx hc=>(h5 i j x c hx hc).lf (hys x (z6 hx) c (z6 hc))⟩,h6,h7,h8⟩
  ·rcases hfind hi with ⟨rfl,rfl⟩|⟨_,hi2,hi'⟩<;>rcases hfind hj with ⟨rfl,rfl⟩|⟨_,hj2,hj'⟩
   ·rfl
   ·have a:=ein j hj'
    have:=new hj2 fun h=>hnj (a.2.2.2.2 h)
    rw [an.1,a.1] at heq
    have:=hnb fun h=>hni (an.2.2.2.2 h)
    omega
   ·have a:=ein i hi'
    have:=new hi2 fun h=>hni (a.2.2.2.2 h)
    rw [an.1,a.1] at heq
    have:=hnb fun h=>hnj (an.2.2.2.2 h)
    omega
   ·have a:=ein i hi'
    have b:=ein j hj'
    rw [a.1,b.1] at heq
    exact hh.inj i j _ _ hi2 hj2 (fun h=>hni (a.2.2.2.2 h)) (fun h=>hnj (b.2.2.2.2 h)) heq
  ·rw [e0] at hs
   rcases hfind hm with ⟨rfl,rfl⟩|⟨_,hm,hi⟩
   ·rw [an.1] at hs
    exact hH.sep _ _ hfn (fun h=>hnn (an.2.2.2.2 h)) hs
   ·have a:=ein m hi
    rw [a.1] at hs
    exact hh.sep m _ hm (fun h=>hnn (a.2.2.2.2 h)) (hsup _ hs)
  ·rw [e0] at hb;exact xE (hH.lt b hb) hf.size
  ·rw [e0] at hk
   exact hH.tabs w2 fun b hb=>(hk b hb).trans (hkeep b hb)
  ·rcases hfind hm with ⟨rfl,rfl⟩|⟨_,hm,hi⟩
   ·exact .inr ⟨m,_,hfn,fun h=>hnn (an.2.2.2.2 h),an.1.symm⟩
   ·have a:=ein m hi
    refine .inl ?_
    rw [a.1]
    exact new hm fun h=>hnn (a.2.2.2.2 h)
  ·obtain ⟨rfl,rfl⟩:=only hm;exact an
  ·refine eout id ?_
   cases hb:a0t id R with
   | false=>rfl
   | true =>
    obtain ⟨o,ho⟩:=a3m.1 hb
    simp only [find] at hid
    cases hni:Nat.beq id n with
    | true=>rw [hni] at hid;cases hid
    | false=>rw [hni] at hid;rw [vM,ho] at hid;cases hid
theorem c8y {id a:Nat} {o o':a0i} (h:find id [(a,o)]=some o'):o'=o:=by
 simp only [find] at h
 cases hb:Nat.beq id a with
 | false=>rw [hb] at h;cases h
 | true=>rw [hb] at h;cases h;rfl
theorem d6c {α β:Type} (f:α→β) (l:List α):(l.map f).take l.length=l.map f:=zP (by rw [wN];exact vJ _)
end Go.Ab