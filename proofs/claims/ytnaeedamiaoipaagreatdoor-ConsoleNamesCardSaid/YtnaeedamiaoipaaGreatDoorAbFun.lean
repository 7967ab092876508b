/- The abstract layer, part 24: plain functions that may have no result, and how a run follows them. -/
import Derived.Test.YtnaeedamiaoipaaGreatDoorAbSwap
import Derived.KernelRfl
set_option linter.all false
set_option linter.unusedVariables false
namespace Go.Ab
open Go.RowKit
abbrev Str:=List UInt8
def Ok {α:Type} (o:Option α) (Q:α→Prop):Prop:=∃y,o=some y∧Q y
theorem Ok_some {α:Type} {x:α} {Q:α→Prop}:Ok (some x) Q=Q x:=propext ⟨fun ⟨_,e,h⟩=>by cases e;exact h,fun h=>⟨x,rfl,h⟩⟩
theorem Ok_none {α:Type} {Q:α→Prop}:Ok none Q=False:=by simp [Ok]
theorem Ok_bind {α β:Type} {o:Option α} {f:α→Option β} {Q:β→Prop}:Ok (o.bind f) Q=∃y,o=some y∧Ok (f y) Q:=propext
 ⟨fun ⟨z,e,h⟩=>by
  cases o with
  | none=>cases e
  | some y=>exact ⟨y,rfl,z,e,h⟩,fun ⟨y,e,z,e',h⟩=>⟨z,by rw [e];exact e',h⟩⟩
theorem Ok_ite {α:Type} {b:Bool} {x y:Option α} {Q:α→Prop}:Ok (bif b then x else y) Q=((b=true→Ok x Q)∧(b=false→Ok y Q)):=by
 cases b<;>simp
def chk {α:Type} (b:Bool) (o:Option α):Option α:=bif b then o else none
theorem Ok_chk {α:Type} {b:Bool} {o:Option α} {Q:α→Prop}:Ok (chk b o) Q=(b=true∧Ok o Q):=by
 cases b<;>simp [chk,Ok_none]
theorem chk_true {α:Type} {b:Bool} {o:Option α} (h:b=true):chk b o=o:=by rw [h];rfl
def jn {α β:Type} (o:Option α) (f:α→Option β):Option β:=o.bind f
theorem jn_eq {α β:Type} {o:Option α} {f:α→Option β}:jn o f=o.bind f:=rfl
def grp {α β:Type} (x:α) (f:α→Option β):Option β:=f x
theorem grp_eq {α β:Type} {x:α} {f:α→Option β}:grp x f=f x:=rfl
def in64 (n:Int):Bool:=decide (-9223372036854775808≤n)&&decide (n≤9223372036854775807)
theorem in64_iff {n:Int}:in64 n=true↔-9223372036854775808≤n∧n≤9223372036854775807:=by simp [in64]
theorem rng64 {n:Int}:rng .i64 n=(in64 n=true):=propext (by simp [rng,in64])
def inb (i:Int) (n:Nat):Bool:=decide (0≤i)&&decide (i<n)
theorem inb_iff {i:Int} {n:Nat}:inb i n=true↔0≤i∧i<n:=by simp [inb]
theorem inb_toNat {i:Int} {n:Nat} (h:inb i n=true):i.toNat<n:=by have:=inb_iff.1 h;omega
def inc (a b:Int) (n:Nat):Bool:=decide (0≤a)&&(decide (a≤b)&&decide (b≤n))
theorem inc_iff {a b:Int} {n:Nat}:inc a b n=true↔0≤a∧a≤b∧b≤n:=by simp [inc]
def room (n bytes:Nat):Bool:=decide (n*bytes≤140737488355328)
theorem room_iff {n b:Nat}:room n b=true↔n*b≤140737488355328:=by simp [room]
def roomI (n m:Int) (b:Nat):Bool:=decide (0≤n)&&(decide (n≤m)&&decide (m*b≤140737488355328))
theorem roomI_iff {n m:Int} {b:Nat}:roomI n m b=true↔0≤n∧n≤m∧m*b≤140737488355328:=by simp [roomI]
inductive Fl (σ ρ:Type) where
 | nx (s:σ)
 | ex (r:ρ)
def Fl.elim {σ ρ γ:Type} (f:σ→γ) (g:ρ→γ):Fl σ ρ→γ
 | .nx s=>f s
 | .ex r=>g r
theorem Fl_nx {σ ρ γ:Type} {f:σ→γ} {g:ρ→γ} {s:σ}:Fl.elim f g (.nx s)=f s:=rfl
theorem Fl_ex {σ ρ γ:Type} {f:σ→γ} {g:ρ→γ} {r:ρ}:Fl.elim f g (.ex r)=g r:=rfl
def forL {α σ ρ:Type} (body:Int→α→σ→Option (Fl σ ρ)):List α→Int→σ→Option (Fl σ ρ)
 | [],_,s=>some (.nx s)
 | x::r,i,s=>(body i x s).bind fun o=>o.elim (fun s'=>forL body r (i+1) s') fun e=>some (.ex e)
def foldL {α σ:Type} (body:Int→α→σ→Option σ):List α→Int→σ→Option σ
 | [],_,s=>some s
 | x::r,i,s=>(body i x s).bind fun s'=>foldL body r (i+1) s'
def iter {σ ρ:Type} (step:σ→Option (Fl σ ρ)):Nat→σ→Option ρ
 | 0,_=>none
 | n+1,s=>(step s).bind fun o=>o.elim (iter step n) some
theorem iter_mono {σ ρ:Type} {step:σ→Option (Fl σ ρ)}:∀{n m:Nat} {s:σ} {r:ρ},n≤m→iter step n s=some r→iter step m s=some r
 | 0,_,_,_,_,h=>by cases h
 | n+1,0,_,_,hle,_=>by omega
 | n+1,m+1,s,r,hle,h=>by
  simp only [iter] at h ⊢
  cases hs:step s with
  | none=>rw [hs] at h;cases h
  | some o =>
   rw [hs] at h
   cases o with
   | nx s'=>exact iter_mono (n:=n) (m:=m) (by omega) h
   | ex r'=>exact h
open Classical in
noncomputable def loop {σ ρ:Type} (step:σ→Option (Fl σ ρ)) (s:σ):Option ρ:=if h:∃n r,iter step n s=some r then iter step h.choose s else none
theorem loop_iter {σ ρ:Type} {step:σ→Option (Fl σ ρ)} {s:σ} {r:ρ}:loop step s=some r↔∃n,iter step n s=some r:=by
 unfold loop
 constructor
 ·intro h
  split at h
  ·exact ⟨_,h⟩
  ·cases h
 ·rintro ⟨n,h⟩
  have hx:∃n r,iter step n s=some r:=⟨n,r,h⟩
  rw [dif_pos hx]
  obtain ⟨r',h'⟩:=hx.choose_spec
  have a:=iter_mono (Nat.le_max_left hx.choose n) h'
  have b:=iter_mono (Nat.le_max_right hx.choose n) h
  rw [a] at b;rw [h',b]
theorem loop_eq {σ ρ:Type} {step:σ→Option (Fl σ ρ)} {s:σ}:loop step s=(step s).bind fun o=>o.elim (loop step) some:=by
 apply Option.ext
 intro r
 rw [loop_iter]
 constructor
 ·rintro ⟨n,h⟩
  cases n with
  | zero=>cases h
  | succ n =>
   simp only [iter] at h
   cases hs:step s with
   | none=>rw [hs] at h;cases h
   | some o =>
    rw [hs] at h
    cases o with
    | nx s'=>exact loop_iter.2 ⟨n,h⟩
    | ex r'=>exact h
 ·intro h
  cases hs:step s with
  | none=>rw [hs] at h;cases h
  | some o =>
   rw [hs] at h
   cases o with
   | nx s' =>
    obtain ⟨n,hn⟩:=loop_iter.1 h
    exact ⟨n+1,by simp only [iter,hs];exact hn⟩
   | ex r'=>exact ⟨1,by simp only [iter,hs];exact h⟩
open Classical in
noncomputable def permL {α γ:Type} (f:List α→Option γ) (es:List α):Option γ:=if h:∃r,∀l,l.Perm es→f l=some r then some h.choose else none
theorem permL_of {α γ:Type} {f:List α→Option γ} {es:List α} {r:γ} (h:∀l,l.Perm es→f l=some r):permL f es=some r:=by
 have hx:∃r,∀l,l.Perm es→f l=some r:=⟨r,h⟩
 unfold permL
 rw [dif_pos hx]
 have:=hx.choose_spec es (List.Perm.refl _)
 rw [h es (List.Perm.refl _)] at this;exact this.symm
theorem permL_inv {α γ:Type} {f:List α→Option γ} {es:List α} {r:γ} (h:permL f es=some r):∀l,l.Perm es→f l=some r:=by
 unfold permL at h
 split at h
 ·rename_i hx;cases h;exact hx.choose_spec
 ·cases h
section
variable {M:Mach} {c:Cfg} {e:List (Nat×V)} {h:Heap} {s:List Fr}
theorem Mach.go_jn {α β:Type} {a b:MC} {A:Option α} {B:α→Option β} {Q:β→Prop} (I:α→St) (ns:List Note) (hF:Ok (jn A B) Q)
  (h1:∀(Qn:α→Prop) (K:St→Prop),(∀σ',(stepNs c.H0 ns σ' fun σ'=>∃y,Qn y∧SubSt (I y) σ')→K σ')→Ok A Qn→M.go ⟨c.P,c.H0,K,M.kX c s,c.R⟩ a [] ⟨e,h⟩)
  (h2:∀y,Ok (B y) Q→factsSt (I y)→M.go c b s (I y)):M.go c (.cut a b) s ⟨e,h⟩:=by
 rw [jn_eq,Ok_bind] at hF
 obtain ⟨y0,e0,h0⟩:=hF
 exact M.go_cut I (fun y=>Ok (B y) Q) ns (h1 _ _ (fun σ' h=>Lk.mk h) ⟨y0,e0,h0⟩) h2
theorem Mach.go_gr {α:Type} {ms:List MOp} {its:List It} {A:Option α} {β:Type} {B:α→Option β} {Q:β→Prop} (I:α→St) (hF:Ok (jn A B) Q)
  (h1:∀(Qn:α→Prop) (K:St→Prop),(∀σ',(∃y,Qn y∧SubSt (I y) σ')→K σ')→Ok A Qn→M.ops ⟨c.P,c.H0,K,fun _ _=>False,fun _=>False⟩ ms [] ⟨e,h⟩)
  (h2:∀y,Ok (B y) Q→factsSt (I y)→M.kN c (.it its::s) (I y)):M.grpC c ms its s ⟨e,h⟩:=by
 rw [jn_eq,Ok_bind] at hF
 obtain ⟨y0,e0,h0⟩:=hF
 exact M.go_grp I (fun y=>Ok (B y) Q) (h1 _ _ (fun σ' h=>Lk.mk h) ⟨y0,e0,h0⟩) h2
theorem Mach.go_gv {α:Type} {ms:List MOp} {its:List It} {x:α} {β:Type} {B:α→Option β} {Q:β→Prop} (I:α→St) (hF:Ok (grp x B) Q)
  (h1:∀(K:St→Prop),(∀σ',SubSt (I x) σ'→K σ')→M.ops ⟨c.P,c.H0,K,fun _ _=>False,fun _=>False⟩ ms [] ⟨e,h⟩)
  (h2:Ok (B x) Q→M.kN c (.it its::s) (I x)):M.grpC c ms its s ⟨e,h⟩:=by
 rw [grp_eq] at hF
 exact M.go_grp (fun _:Unit=>I x) (fun _=>True) (h1 _ fun σ' h=>Lk.mk ⟨(),trivial,h⟩) fun _ _ hf=>h2 hF
theorem Mach.go_while {σ ρ:Type} {b:MC} {step:σ→Option (Fl σ ρ)} {s0:σ} {Q:ρ→Prop} (I:σ→St) (ns:List Note) (hF:Ok (loop step s0) Q)
  (h0:stepNs c.H0 ns ⟨e,h⟩ fun σ'=>SubSt (I s0) σ')
  (round:∀(x:σ) (Qn:σ→Prop) (K:St→Prop),(∀σ',(stepNs c.H0 ns σ' fun σ'=>∃y,Qn y∧SubSt (I y) σ')→K σ')→Ok (step x) (Fl.elim Qn Q)→factsSt (I x)→M.go ⟨c.P,c.H0,K,M.kX c s,c.R⟩ b [] (I x)):M.go c (.loop b) s ⟨e,h⟩:=by
 obtain ⟨r,hr,hQ⟩:=hF
 obtain ⟨n,hn⟩:=loop_iter.1 hr
 refine M.go_loop (fun x:Nat×σ=>I x.2) (fun x=>Ok (iter step x.1 x.2) Q) (fun x=>x.1) ns (stepNs_mono (fun σ' h=>⟨(n,s0),⟨r,hn,hQ⟩,h⟩) h0) fun x hx hf=>?_
 obtain ⟨m,x⟩:=x
 obtain ⟨r',hr',hQ'⟩:=hx
 cases m with
 | zero=>cases hr'
 | succ m =>
  refine round x (fun y=>Ok (iter step m y) Q) _ (fun σ' h=>Lk.mk (stepNs_mono (fun σ'' ⟨y,h1,h2⟩=>⟨(m,y),h1,Nat.lt_succ_self m,h2⟩) h)) ?_ hf
  simp only [iter] at hr'
  cases hs:step x with
  | none=>rw [hs] at hr';cases hr'
  | some o =>
   rw [hs] at hr'
   refine ⟨o,rfl,?_⟩
   cases o with
   | nx y=>exact ⟨r',hr',hQ'⟩
   | ex r2=>cases hr';exact hQ'
theorem drop_cons {α:Type} [Inhabited α] {xs:List α} {k:Nat} (h:k<xs.length):xs.drop k=xs.getD k default::xs.drop (k+1):=by
 rw [List.drop_eq_getElem_cons h];simp [h]
theorem Mach.go_for {α σ ρ:Type} [Inhabited α] {b:MC} {body:Int→α→σ→Option (Fl σ ρ)} {xs:List α} {s0:σ} {Q:Fl σ ρ→Prop} (I:Nat→σ→St) (ns:List Note) (hF:Ok (forL body xs 0 s0) Q)
  (h0:stepNs c.H0 ns ⟨e,h⟩ fun σ'=>SubSt (I 0 s0) σ')
  (round:∀(k:Nat) (a:α) (x:σ) (Qn:σ→Prop) (K:St→Prop),(∀σ',(stepNs c.H0 ns σ' fun σ'=>∃y,Qn y∧SubSt (I (k+1) y) σ')→K σ')→k<xs.length→xs.getD k default=a→Ok (body k a x) (Fl.elim Qn fun r=>Q (.ex r))→factsSt (I k x) →
   M.go ⟨c.P,c.H0,K,M.kX c s,c.R⟩ b [] (I k x))
  (stop:∀(k:Nat) (x:σ) (K:St→Prop),k=xs.length→Q (.nx x)→factsSt (I k x)→M.go ⟨c.P,c.H0,K,M.kX c s,c.R⟩ b [] (I k x)):M.go c (.loop b) s ⟨e,h⟩:=by
 refine M.go_loop (fun x:Nat×σ=>I x.1 x.2) (fun x=>x.1≤xs.length∧Ok (forL body (xs.drop x.1) x.1 x.2) Q) (fun x=>xs.length - x.1) ns (stepNs_mono (fun σ' h=>⟨(0,s0),⟨Nat.zero_le _,hF⟩,h⟩) h0) fun x hx hf=>?_
 obtain ⟨k,x⟩:=x
 obtain ⟨hk,hx⟩:=hx
 simp only at hk hx hf
 rcases Nat.lt_or_ge k xs.length with hlt|hge
 ·refine round k _ x (fun y=>Ok (forL body (xs.drop (k+1)) (k+1:Nat) y) Q) _ (fun σ' h=>Lk.mk (stepNs_mono (fun σ'' ⟨y,h1,h2⟩=>⟨(k+1,y),⟨hlt,h1⟩,by show xs.length - (k+1)<xs.length - k;omega,h2⟩) h)) hlt rfl ?_ hf
  rw [drop_cons hlt] at hx
  simp only [forL,Ok_bind] at hx
  obtain ⟨o,ho,hx⟩:=hx
  refine ⟨o,ho,?_⟩
  cases o with
  | nx y=>exact hx
  | ex r=>simpa only [Fl.elim,Ok_some] using hx
 ·have e1:k=xs.length:=by omega
  subst e1
  rw [List.drop_length] at hx
  simp only [forL,Ok_some] at hx
  exact stop _ x _ rfl hx hf
theorem Mach.go_fold {α σ:Type} [Inhabited α] {b:MC} {body:Int→α→σ→Option σ} {xs:List α} {s0:σ} {Q:σ→Prop} (I:Nat→σ→St) (ns:List Note) (hF:Ok (foldL body xs 0 s0) Q)
  (h0:stepNs c.H0 ns ⟨e,h⟩ fun σ'=>SubSt (I 0 s0) σ')
  (round:∀(k:Nat) (a:α) (x:σ) (Qn:σ→Prop) (K:St→Prop),(∀σ',(stepNs c.H0 ns σ' fun σ'=>∃y,Qn y∧SubSt (I (k+1) y) σ')→K σ')→k<xs.length→xs.getD k default=a→Ok (body k a x) Qn→factsSt (I k x) →
   M.go ⟨c.P,c.H0,K,M.kX c s,c.R⟩ b [] (I k x))
  (stop:∀(k:Nat) (x:σ) (K:St→Prop),k=xs.length→Q x→factsSt (I k x)→M.go ⟨c.P,c.H0,K,M.kX c s,c.R⟩ b [] (I k x)):M.go c (.loop b) s ⟨e,h⟩:=by
 refine M.go_loop (fun x:Nat×σ=>I x.1 x.2) (fun x=>x.1≤xs.length∧Ok (foldL body (xs.drop x.1) x.1 x.2) Q) (fun x=>xs.length - x.1) ns (stepNs_mono (fun σ' h=>⟨(0,s0),⟨Nat.zero_le _,hF⟩,h⟩) h0) fun x hx hf=>?_
 obtain ⟨k,x⟩:=x
 obtain ⟨hk,hx⟩:=hx
 simp only at hk hx hf
 rcases Nat.lt_or_ge k xs.length with hlt|hge
 ·refine round k _ x (fun y=>Ok (foldL body (xs.drop (k+1)) (k+1:Nat) y) Q) _ (fun σ' h=>Lk.mk (stepNs_mono (fun σ'' ⟨y,h1,h2⟩=>⟨(k+1,y),⟨hlt,h1⟩,by show xs.length - (k+1)<xs.length - k;omega,h2⟩) h)) hlt rfl ?_ hf
  rw [drop_cons hlt] at hx
  simp only [foldL,Ok_bind] at hx
  obtain ⟨o,ho,hx⟩:=hx
  exact ⟨o,ho,hx⟩
 ·have e1:k=xs.length:=by omega
  subst e1
  rw [List.drop_length] at hx
  simp only [foldL,Ok_some] at hx
  exact stop _ x _ rfl hx hf
end
def ovE:List (Nat×V)→List (Nat×V)→List (Nat×V)
 | [],e=>e
 | (n,x)::r,e=>ovE r (put n x e)
def filtH (keep:List Nat):Heap→Heap
 | []=>[]
 | (n,x)::r=>bif mem n keep then (n,x)::filtH keep r else filtH keep r
inductive Up where
 | o (id:Nat) (o:Obj')
 | p (id off:Nat) (cs:List V)
def patO (off:Nat) (cs:List V):Obj'→Obj'
 | .cells ds t=>.cells (setCells ds off cs) t
 | o=>o
def ovU:List Up→Heap→Heap
 | [],h=>h
 | .o id o::r,h=>ovU r (put id o h)
 | .p id off cs::r,h=>ovU r (match find id h with|some o=>put id (patO off cs o) h|none=>h)
def ovS (e:List (Nat×V)) (h:Heap) (ke kh:List Nat) (ue:List (Nat×V)) (uh:List Up):St:=⟨ovE ue (filt ke e),ovU uh (filtH kh h)⟩
theorem factsE_find {n:Nat} {x:V}:∀{e:List (Nat×V)},factsE e→find n e=some x→x.fact
 | (m,y)::r,h,hf=>by
  simp only [find] at hf
  cases hb:Nat.beq n m with
  | true=>rw [hb] at hf;cases hf;exact h.1
  | false=>rw [hb] at hf;exact factsE_find h.2 hf
theorem fact_sl {α:Type} {f:α→V} {xs:List α} (h:(V.sl (xs.map f)).fact):xs.length≤9223372036854775807:=by simpa using h.1
section
variable {M:Mach} {c:Cfg} {e:List (Nat×V)} {h:Heap} {s:List Fr}
theorem Mach.jn1 {α β:Type} {a b:MC} {A:Option α} {B:α→Option β} {Q:β→Prop} (ke kh:List Nat) (ue:α→List (Nat×V)) (uh:α→List Up) (ns:List Note) (hF:Ok (jn A B) Q)
  (h1:∀(Qn:α→Prop) (K:St→Prop),(∀σ',(stepNs c.H0 ns σ' fun σ'=>∃y,Qn y∧SubSt (ovS e h ke kh (ue y) (uh y)) σ')→K σ')→Ok A Qn→M.go ⟨c.P,c.H0,K,M.kX c s,c.R⟩ a [] ⟨e,h⟩)
  (h2:∀y,Ok (B y) Q→M.go c b s (ovS e h ke kh (ue y) (uh y))):M.go c (.cut a b) s ⟨e,h⟩ :=
 M.go_jn (fun y=>ovS e h ke kh (ue y) (uh y)) ns hF h1 fun y hy _=>h2 y hy
theorem Mach.jnE {α β ρ:Type} {a b:MC} {A:Option (Fl α ρ)} {B:α→Option β} {E:ρ→Option β} {Q:β→Prop} (ke kh:List Nat) (ue:α→List (Nat×V)) (uh:α→List Up) (ns:List Note) (hF:Ok (jn A fun o=>o.elim B E) Q)
  (h1:∀(Qn:α→Prop) (K:St→Prop),(∀σ',(stepNs c.H0 ns σ' fun σ'=>∃y,Qn y∧SubSt (ovS e h ke kh (ue y) (uh y)) σ')→K σ')→Ok A (Fl.elim Qn fun r=>Ok (E r) Q)→M.go ⟨c.P,c.H0,K,M.kX c s,c.R⟩ a [] ⟨e,h⟩)
  (h2:∀y,Ok (B y) Q→M.go c b s (ovS e h ke kh (ue y) (uh y))):M.go c (.cut a b) s ⟨e,h⟩:=by
 rw [jn_eq,Ok_bind] at hF
 obtain ⟨y0,e0,h0⟩:=hF
 refine M.go_cut (fun y=>ovS e h ke kh (ue y) (uh y)) (fun y=>Ok (B y) Q) ns (h1 (fun y=>Ok (B y) Q) _ (fun σ' h=>Lk.mk h) ⟨y0,e0,?_⟩) fun y hy _=>h2 y hy
 cases y0 with
 | nx x=>exact h0
 | ex r=>exact h0
theorem Mach.gj1 {α β:Type} {ms:List MOp} {its:List It} {A:Option α} {B:α→Option β} {Q:β→Prop} (ke kh:List Nat) (ue:α→List (Nat×V)) (uh:α→List Up) (hF:Ok (jn A B) Q)
  (h1:∀(Qn:α→Prop) (K:St→Prop),(∀σ',(∃y,Qn y∧SubSt (ovS e h ke kh (ue y) (uh y)) σ')→K σ')→Ok A Qn→M.ops ⟨c.P,c.H0,K,fun _ _=>False,fun _=>False⟩ ms [] ⟨e,h⟩)
  (h2:∀y,Ok (B y) Q→M.kN c (.it its::s) (ovS e h ke kh (ue y) (uh y))):M.grpC c ms its s ⟨e,h⟩ :=
 M.go_gr (fun y=>ovS e h ke kh (ue y) (uh y)) hF h1 fun y hy _=>h2 y hy
def dropE (ds:List Nat):List (Nat×V)→List (Nat×V)
 | []=>[]
 | (n,x)::r=>bif mem n ds then dropE ds r else (n,x)::dropE ds r
theorem Mach.gv1 {ms:List MOp} {its:List It} {x:Bool} {β:Type} {B:Bool→Option β} {Q:β→Prop} (d:Nat) (ds:List Nat) (hF:Ok (grp x B) Q)
  (h1:∀(K:St→Prop),(∀σ',SubSt ⟨put d (.bool x) (dropE ds e),h⟩ σ'→K σ')→M.ops ⟨c.P,c.H0,K,fun _ _=>False,fun _=>False⟩ ms [] ⟨e,h⟩)
  (h2:∀b,Ok (B b) Q→M.kN c (.it its::s) ⟨put d (.bool b) (dropE ds e),h⟩):M.grpC c ms its s ⟨e,h⟩ :=
 M.go_gv (fun b=>⟨put d (.bool b) (dropE ds e),h⟩) hF h1 (h2 x)
theorem Mach.wh1 {σ ρ:Type} {b:MC} {step:σ→Option (Fl σ ρ)} {s0:σ} {Q:ρ→Prop} (ke kh:List Nat) (ue:σ→List (Nat×V)) (uh:σ→List Up) (ns:List Note) (hF:Ok (loop step s0) Q)
  (h0:stepNs c.H0 ns ⟨e,h⟩ fun σ'=>SubSt (ovS e h ke kh (ue s0) (uh s0)) σ')
  (round:∀(x:σ) (Qn:σ→Prop) (K:St→Prop),(∀σ',(stepNs c.H0 ns σ' fun σ'=>∃y,Qn y∧SubSt (ovS e h ke kh (ue y) (uh y)) σ')→K σ')→Ok (step x) (Fl.elim Qn Q)→M.go ⟨c.P,c.H0,K,M.kX c s,c.R⟩ b [] (ovS e h ke kh (ue x) (uh x))) :
  M.go c (.loop b) s ⟨e,h⟩ :=
 M.go_while (fun x=>ovS e h ke kh (ue x) (uh x)) ns hF h0 fun x Qn K h1 h2 _=>round x Qn K h1 h2
theorem Mach.for1 {α σ ρ:Type} [Inhabited α] {b:MC} {body:Int→α→σ→Option (Fl σ ρ)} {xs:List α} {s0:σ} {Q:Fl σ ρ→Prop} (isl:Nat) (ke kh:List Nat) (ue:σ→List (Nat×V)) (uh:σ→List Up) (ns:List Note) (hF:Ok (forL body xs 0 s0) Q)
  (h0:stepNs c.H0 ns ⟨e,h⟩ fun σ'=>SubSt (ovS e h ke kh ((isl,.int .i64 ((0:Nat):Int))::ue s0) (uh s0)) σ')
  (round:∀(k:Nat) (a:α) (x:σ) (Qn:σ→Prop) (K:St→Prop),(∀σ',(stepNs c.H0 ns σ' fun σ'=>∃y,Qn y∧SubSt (ovS e h ke kh ((isl,.int .i64 ((k+1:Nat):Int))::ue y) (uh y)) σ')→K σ')→k<xs.length→xs.getD k default=a →
   Ok (body k a x) (Fl.elim Qn fun r=>Q (.ex r))→factsSt (ovS e h ke kh ((isl,.int .i64 k)::ue x) (uh x))→M.go ⟨c.P,c.H0,K,M.kX c s,c.R⟩ b [] (ovS e h ke kh ((isl,.int .i64 k)::ue x) (uh x)))
  (stop:∀(x:σ) (K:St→Prop),Q (.nx x)→M.go ⟨c.P,c.H0,K,M.kX c s,c.R⟩ b [] (ovS e h ke kh ((isl,.int .i64 (xs.length:Int))::ue x) (uh x))):M.go c (.loop b) s ⟨e,h⟩ :=
 M.go_for (fun k x=>ovS e h ke kh ((isl,.int .i64 (k:Int))::ue x) (uh x)) ns hF h0 round fun k x K hk hq _=>by subst hk;exact stop x K hq
theorem Mach.fold1 {α σ:Type} [Inhabited α] {b:MC} {body:Int→α→σ→Option σ} {xs:List α} {s0:σ} {Q:σ→Prop} (isl:Nat) (ke kh:List Nat) (ue:σ→List (Nat×V)) (uh:σ→List Up) (ns:List Note) (hF:Ok (foldL body xs 0 s0) Q)
  (h0:stepNs c.H0 ns ⟨e,h⟩ fun σ'=>SubSt (ovS e h ke kh ((isl,.int .i64 ((0:Nat):Int))::ue s0) (uh s0)) σ')
  (round:∀(k:Nat) (a:α) (x:σ) (Qn:σ→Prop) (K:St→Prop),(∀σ',(stepNs c.H0 ns σ' fun σ'=>∃y,Qn y∧SubSt (ovS e h ke kh ((isl,.int .i64 ((k+1:Nat):Int))::ue y) (uh y)) σ')→K σ')→k<xs.length→xs.getD k default=a →
   Ok (body k a x) Qn→factsSt (ovS e h ke kh ((isl,.int .i64 k)::ue x) (uh x))→M.go ⟨c.P,c.H0,K,M.kX c s,c.R⟩ b [] (ovS e h ke kh ((isl,.int .i64 k)::ue x) (uh x)))
  (stop:∀(x:σ) (K:St→Prop),Q x→M.go ⟨c.P,c.H0,K,M.kX c s,c.R⟩ b [] (ovS e h ke kh ((isl,.int .i64 (xs.length:Int))::ue x) (uh x))):M.go c (.loop b) s ⟨e,h⟩ :=
 M.go_fold (fun k x=>ovS e h ke kh ((isl,.int .i64 (k:Int))::ue x) (uh x)) ns hF h0 round fun k x K hk hq _=>by subst hk;exact stop x K hq
end
theorem perm_erase {α:Type}:∀{l:List α} {i:Nat} {a:α},l[i]?=some a→(a::l.eraseIdx i).Perm l
 | x::r,0,a,h=>by simp at h;subst h;exact List.Perm.refl _
 | x::r,i+1,a,h=>by
  simp at h
  exact (List.Perm.swap x a _).trans ((perm_erase h).cons x)
 | [],_,_,h=>by simp at h
section
variable {M:Mach} {c:Cfg} {e:List (Nat×V)} {h:Heap} {s:List Fr}
theorem Mach.mfold1 {α σ γ:Type} {b:MC} {kv:α→V×V} {body:Int→α→σ→Option σ} {es:List α} {s0:σ} {R:σ→Option γ} {Q:γ→Prop} (it:Nat) (ke kh:List Nat) (ue:σ→List (Nat×V)) (uh:σ→List Up) (ns:List Note)
  (hF:Ok (permL (fun l=>(foldL body l 0 s0).bind R) es) Q)
  (h0:stepNs c.H0 ns ⟨e,h⟩ fun σ'=>SubSt (ovS e h ke kh (ue s0) (.o it (.iter (es.map kv) none)::uh s0)) σ')
  (round:∀(rem:List α) (cur:Option (V×V)) (x:σ) (k:Int) (Qn:Nat→σ→Prop) (K:St→Prop),(∀i cur' σ',(stepNs c.H0 ns σ' fun σ'=>∃y,Qn i y∧SubSt (ovS e h ke kh (ue y) (.o it (.iter ((rem.eraseIdx i).map kv) cur')::uh y)) σ')→K σ') →
   (rem=[]→Ok (R x) Q)→(∀i a,rem[i]?=some a→Ok (body k a x) (Qn i)) →
   M.go ⟨c.P,c.H0,K,M.kX c s,c.R⟩ b [] (ovS e h ke kh (ue x) (.o it (.iter (rem.map kv) cur)::uh x))):M.go c (.loop b) s ⟨e,h⟩:=by
 obtain ⟨r0,hr0,hq0⟩:=hF
 have hp0:=permL_inv hr0
 refine M.go_loop (fun x:List α×Option (V×V)×Int×σ=>ovS e h ke kh (ue x.2.2.2) (.o it (.iter (x.1.map kv) x.2.1)::uh x.2.2.2))
  (fun x=>∀l,l.Perm x.1→Ok ((foldL body l x.2.2.1 x.2.2.2).bind R) Q) (fun x=>x.1.length) ns
  (stepNs_mono (fun σ' h=>⟨(es,none,0,s0),fun l hl=>⟨r0,hp0 l hl,hq0⟩,h⟩) h0) fun x hx _=>?_
 obtain ⟨rem,cur,k,x⟩:=x
 simp only at hx
 refine round rem cur x k (fun i y=>i<rem.length∧∀l,l.Perm (rem.eraseIdx i)→Ok ((foldL body l (k+1) y).bind R) Q) _
  (fun i cur' σ' h=>Lk.mk (stepNs_mono (fun σ'' ⟨y,⟨hi,h1⟩,h2⟩=>⟨(rem.eraseIdx i,cur',k+1,y),h1,by simp only;rw [List.length_eraseIdx];split<;>omega,h2⟩) h)) (fun hr=>?_) fun i a ha=>?_
 ·have:=hx [] (by rw [hr])
  simpa only [foldL,Option.bind_some] using this
 ·have hi:i<rem.length:=(List.getElem?_eq_some_iff.1 ha).1
  have h1:∀l,l.Perm (rem.eraseIdx i)→Ok ((foldL body (a::l) k x).bind R) Q:=fun l hl=>hx _ ((hl.cons a).trans (perm_erase ha))
  have h2:=h1 _ (List.Perm.refl _)
  simp only [foldL] at h2
  cases hb:body k a x with
  | none=>rw [hb] at h2;simp [Ok_none] at h2
  | some y =>
   refine ⟨y,rfl,hi,fun l hl=>?_⟩
   have:=h1 l hl
   simpa only [foldL,hb,Option.bind_some] using this
end
section
variable {M:Mach} {c:Cfg} {e:List (Nat×V)} {h:Heap} {s:List Fr}
theorem Mach.rforC {α σ ρ:Type} {q:Opd} {ps:List Nat} {a b:MC} {gf:Nat} {caps:List V} {enc:α→List V} {body:Int→α→σ→Option (Fl σ ρ)} {xs:List α} {s0:σ} {Q:Fl σ ρ→Prop} (Hc:Heap) (pins:List Nat) (kh:List Nat) (uh:σ→List Up) (ns:List Note)
  (hF:Ok (forL body xs 0 s0) Q) (hq:q.ev e=.fn (.func gf) caps) (hit:AIter c.P gf caps Hc (xs.map enc)) (hsc:SubSt ⟨[],Hc⟩ ⟨e,h⟩) (hpin:envIn pins e=true) (hxs:∀a,(enc a).length=ps.length∧V.withinL [] (enc a)=true)
  (h0:SubSt ⟨[],(ovS e h [] kh [] (uh s0)).heap⟩ ⟨e,h⟩) (hdis:∀q∈Hc,find q.1 (ovS e h [] kh [] (uh s0)).heap=none)
  (round:∀(k:Nat) (v:α) (x:σ) (Qn:σ→Prop) (K:St→Prop),(∀σ',(stepNs (pinH c.H0 pins) ns σ' fun σ'=>∃y,Qn y∧SubSt ⟨[],(ovS e h [] kh [] (uh y)).heap⟩ σ')→K σ')→k<xs.length →
   Ok (body k v x) (Fl.elim Qn fun r=>Q (.ex r))→factsH (ovS e h [] kh [] (uh x)).heap →
   M.go ⟨c.P,pinH c.H0 pins,K,fun i σ'=>M.kX c s i ⟨e,σ'.heap⟩,fun σ'=>c.R ⟨e,σ'.heap⟩⟩ (.seq a b) [] ⟨putPs ps (enc v) e,(ovS e h [] kh [] (uh x)).heap⟩)
  (hst:a.straight=true) (stop:∀x,Q (.nx x)→M.kN c s ⟨e,(ovS e h [] kh [] (uh x)).heap⟩):M.go c (.rngF q ps a b) s ⟨e,h⟩:=by
 refine M.go_rngF Hc (xs.map enc) pins (fun _ x=>(ovS e h [] kh [] (uh x)).heap) (fun k x=>k≤xs.length∧Ok (forL body (xs.drop k) k x) Q) ns hq hit hsc hpin (fun l hl=>?_) ⟨s0,⟨Nat.zero_le _,hF⟩,h0,hdis⟩ (fun k x l hk hp hf=>?_) hst fun x hx=>?_
 ·obtain ⟨a,_,rfl⟩:=List.mem_map.1 hl
  exact hxs a
 ·rw [List.getElem?_map] at hk
  cases ha:xs[k]? with
  | none=>rw [ha] at hk;cases hk
  | some a =>
   rw [ha] at hk;cases hk
   have hlt:k<xs.length:=(List.getElem?_eq_some_iff.1 ha).1
   refine round k a x (fun y=>Ok (forL body (xs.drop (k+1)) (k+1:Nat) y) Q) _ (fun σ' h=>Lk.mk (stepNs_mono (fun σ'' ⟨y,h1,h2⟩=>⟨y,⟨hlt,h1⟩,h2⟩) h)) hlt ?_ hf
   obtain ⟨_,hx⟩:=hp
   have e1:xs.drop k=a::xs.drop (k+1):=by
    rw [List.drop_eq_getElem_cons hlt]
    have:=(List.getElem?_eq_some_iff.1 ha).2
    rw [this]
   rw [e1] at hx
   simp only [forL,Ok_bind] at hx
   obtain ⟨o,ho,hx⟩:=hx
   refine ⟨o,ho,?_⟩
   cases o with
   | nx y=>exact hx
   | ex r=>simpa only [Fl.elim,Ok_some] using hx
 ·obtain ⟨_,hx⟩:=hx
  rw [List.length_map,List.drop_length] at hx
  simp only [forL,Ok_some] at hx
  exact stop x hx
theorem Mach.rfor {α σ ρ:Type} {q:Opd} {ps:List Nat} {a b:MC} {gf:Nat} {caps:List V} {enc:α→List V} {body:Int→α→σ→Option (Fl σ ρ)} {xs:List α} {s0:σ} {Q:Fl σ ρ→Prop} (pins:List Nat) (kh:List Nat) (uh:σ→List Up) (ns:List Note)
  (hF:Ok (forL body xs 0 s0) Q) (hq:q.ev e=.fn (.func gf) caps) (hit:AIter c.P gf caps [] (xs.map enc)) (hpin:envIn pins e=true) (hxs:∀a,(enc a).length=ps.length∧V.withinL [] (enc a)=true)
  (h0:SubSt ⟨[],(ovS e h [] kh [] (uh s0)).heap⟩ ⟨e,h⟩)
  (round:∀(k:Nat) (v:α) (x:σ) (Qn:σ→Prop) (K:St→Prop),(∀σ',(stepNs (pinH c.H0 pins) ns σ' fun σ'=>∃y,Qn y∧SubSt ⟨[],(ovS e h [] kh [] (uh y)).heap⟩ σ')→K σ')→k<xs.length →
   Ok (body k v x) (Fl.elim Qn fun r=>Q (.ex r))→factsH (ovS e h [] kh [] (uh x)).heap →
   M.go ⟨c.P,pinH c.H0 pins,K,fun i σ'=>M.kX c s i ⟨e,σ'.heap⟩,fun σ'=>c.R ⟨e,σ'.heap⟩⟩ (.seq a b) [] ⟨putPs ps (enc v) e,(ovS e h [] kh [] (uh x)).heap⟩)
  (hst:a.straight=true) (stop:∀x,Q (.nx x)→M.kN c s ⟨e,(ovS e h [] kh [] (uh x)).heap⟩):M.go c (.rngF q ps a b) s ⟨e,h⟩ :=
 M.rforC [] pins kh uh ns hF hq hit ⟨rfl,trivial,trivial⟩ hpin hxs h0 (fun _ h=>by cases h) round hst stop
end
theorem nxt_map {α:Type} {f:α→V×V} {l:List α} {p:Prop} {q:Nat→V×V→Prop}:((l.map f=[]→p)∧∀(i:Nat) (e:V×V),(l.map f)[i]?=some e→q i e)=((l=[]→p)∧∀(i:Nat) (a:α),l[i]?=some a→q i (f a)):=by
 refine propext ⟨fun ⟨h1,h2⟩=>⟨fun h=>h1 (by simp [h]),fun i a ha=>h2 i (f a) (by rw [List.getElem?_map,ha];rfl)⟩,fun ⟨h1,h2⟩=>⟨fun h=>h1 (by simpa using h),fun i e he=>?_⟩⟩
 rw [List.getElem?_map] at he
 cases ha:l[i]? with
 | none=>rw [ha] at he;cases he
 | some a=>rw [ha] at he;cases he;exact h2 i a ha
theorem nxt_of {α:Type} {rem:List α} {A A':Prop} {B B':Nat→α→Prop} (hs:rem=[]→A') (hn:∀i a,rem[i]?=some a→B' i a) (h1:A'→A) (h2:∀i a,B' i a→B i a):(rem=[]→A)∧∀(i:Nat) (a:α),rem[i]?=some a→B i a :=
 ⟨fun h=>h1 (hs h),fun i a h=>h2 i a (hn i a h)⟩
theorem erase_map {α:Type} {f:α→V×V} {l:List α} {i:Nat}:(l.map f).eraseIdx i=(l.eraseIdx i).map f:=by
 induction l generalizing i with
 | nil=>rfl
 | cons x r ih=>cases i with
  | zero=>rfl
  | succ i=>simp [ih]
theorem fact_int {n:Int} (h:(V.int .i64 n).fact):-9223372036854775808≤n∧n≤9223372036854775807:=h
theorem fork {a b a' b' p q:Prop} (h:(p→a')∧(q→b')) (h1:p→a'→a) (h2:q→b'→b):(p→a)∧(q→b):=⟨fun x=>h1 x (h.1 x),fun x=>h2 x (h.2 x)⟩
theorem forkS {a b a' b' p q:Prop} (h:(q→b')∧(p→a')) (h1:p→a'→a) (h2:q→b'→b):(p→a)∧(q→b):=⟨fun x=>h1 x (h.2 x),fun x=>h2 x (h.1 x)⟩
def ltb (n m:Nat):Bool:=decide (n<m)
theorem ltb_of {i:Int} {n:Nat} (h:inb i n=true):ltb i.toNat n=true:=decide_eq_true (inb_toNat h)
theorem toNat_ltb {i:Int} {n:Nat}:(i.toNat<n)=(ltb i.toNat n=true):=propext ⟨fun h=>decide_eq_true h,fun h=>of_decide_eq_true h⟩
theorem bfork {a b p q:Prop} (h1:p→a) (h2:q→b):(p→a)∧(q→b):=⟨h1,h2⟩
theorem appG {r:Bool} {P:V→Prop} {l:List V} {a a':Prop} (h:r=true∧a') (h1:r=true→a'→a) (hl:∀y,y∈l→P y:=by simp [V.cells]):(r=true∧∀y,y∈l→P y)∧a:=⟨⟨h.1,hl⟩,h1 h.1 h.2⟩
theorem appC {r:Bool} {P:V→Prop} {l:List V} {a a':Prop} (h:r=true∧a') (h1:r=true→a'→a) (hl:∀y,y∈l→P y:=by simp [V.cells]):(∀y,y∈l→P y)∧a:=⟨hl,h1 h.1 h.2⟩
theorem roomG {n m:Int} {b:Nat} {a a':Prop} (h:roomI n m b=true∧a') (h1:roomI n m b=true→a'→a):(0≤n∧n≤m∧m*(b:Int)≤140737488355328)∧a:=⟨roomI_iff.1 h.1,h1 h.1 h.2⟩
theorem oblg {a a' p:Prop} (h:p∧a') (h1:p→a'→a):p∧a:=⟨h.1,h1 h.1 h.2⟩
theorem Sum_inl {α β γ:Type} {f:α→γ} {g:β→γ} {a:α}:Sum.elim f g (.inl a)=f a:=rfl
theorem Sum_inr {α β γ:Type} {f:α→γ} {g:β→γ} {b:β}:Sum.elim f g (.inr b)=g b:=rfl
theorem getE_map {α:Type} [Inhabited α] {f:α→V} {l:List α} {i:Nat} (h:i<l.length):(l.map f)[i]?=some (f (l.getD i default)):=by simp [h]
theorem sw_sl {a b:Nat} {xs:List V}:(V.sl xs).sw a b=.sl xs:=by simp [V.sw]
theorem sw_int {a b:Nat} {k:IntKind} {n:Int}:(V.int k n).sw a b=.int k n:=by simp [V.sw]
theorem sw_bool {a b:Nat} {x:Bool}:(V.bool x).sw a b=.bool x:=by simp [V.sw]
theorem sw_str {a b:Nat} {x:List UInt8}:(V.str x).sw a b=.str x:=by simp [V.sw]
theorem sw_smap {a b:Nat} {kd:KD} {es:List (V×V)}:(V.smap kd es).sw a b=.smap kd es:=by simp [V.sw]
theorem sw_byte {a b:Nat} {c:UInt8}:(byteV c).sw a b=byteV c:=by simp [byteV,V.sw]
theorem sw_arr {a b k:Nat} {xs:List V} {t:Option TypeId}:(Obj'.arr k xs t).sw a b=.arr k xs t:=rfl
theorem sw_map {a b:Nat} {kd:KD} {es:List (V×V)}:(Obj'.map kd es).sw a b=.map kd es:=rfl
theorem byte_1 {a:UInt8} {t:List UInt8}:([V.int .u8 (a.toNat:Int)]=t.map byteV)=(t=[a]):=propext
 ⟨fun h=>(bytes_inj (a:=[a]) h).symm,fun h=>by subst h;rfl⟩
theorem byte_x4 {a b:UInt8} {t:List UInt8}:([V.int .u8 92,V.int .u8 120,V.int .u8 (a.toNat:Int),V.int .u8 (b.toNat:Int)]=t.map byteV)=(t=[92,120,a,b]):=propext
 ⟨fun h=>(bytes_inj (a:=[92,120,a,b]) (b:=t) h).symm,fun h=>by subst h;rfl⟩
theorem byte_2 {a b:UInt8} {t:List UInt8}:([V.int .u8 (a.toNat:Int),V.int .u8 (b.toNat:Int)]=t.map byteV)=(t=[a,b]):=propext
 ⟨fun h=>(bytes_inj (a:=[a,b]) h).symm,fun h=>by subst h;rfl⟩
section
variable {M:Mach} {c:Cfg} {d:Option Nat} {r:List MOp} {s:List Fr} {e e0:List (Nat×V)} {h h0:Heap} {anc:List (List Nat)} {u t m:List Nat} {log:List Ent} {x:List UInt8} {n:Nat}
theorem Mach.b2s_e:(∃t:List UInt8,t=x∧t.length=n∧compK (M.lok c d r s e h) (.str t))=(x.length=n∧compK (M.aft c d r s e h) (.str x)):=by
 simp [M.lok_comp]
theorem Mach.b2s_eD:(∃t':List UInt8,t'=x∧t'.length=n∧compK (M.lokD c anc e0 h0 d u t m r log s e h) (.str t'))=(x.length=n∧compK (M.aftD c anc e0 h0 d u t m r log s e h) (.str x)):=by
 simp [M.lokD_comp]
end
def slV {α:Type} (f:α→V) (xs:List α):V:=.sl (xs.map f)
def kvV {α β:Type} (f:α→V) (g:β→V) (p:α×β):V×V:=(f p.1,g p.2)
def mpV {α β:Type} (kd:KD) (f:α→V) (g:β→V) (m:List (α×β)):V:=.smap kd (m.map (kvV f g))
theorem u8_toNat (n:Int):((u8 n).toNat:Int)=n % 256:=by
 unfold u8
 have h:(n % 256).toNat<256:=by omega
 rw [UInt8.toNat_ofNat_of_lt' h];omega
theorem wrap_u8 (n:Int):IntKind.wrap .u8 n=((u8 n).toNat:Int):=by
 rw [u8_toNat];simp [IntKind.wrap,IntKind.signed,IntKind.bits]
def divs (a b:Int):Bool:=decide (0≤a)&&decide (0<b)
theorem divs_iff {a b:Int}:divs a b=true↔0≤a∧0<b:=by simp [divs]
def nzb (b:Int):Bool:=!decide (b=0)
theorem nzb_and {b:Int}:(b≠0)=(nzb b=true):=propext (by simp [nzb])
theorem nzb_and' {b:Int}:(¬b=0)=(nzb b=true):=propext (by simp [nzb])
def shok (b:Int) (n:Nat):Bool:=decide (0≤b)&&decide (b≤n)
def rngb (k:IntKind) (n:Int):Bool:=decide (k.min≤n)&&decide (n≤k.max)
def aget {α β:Type} [DecidableEq α] (k:α):List (α×β)→Option β
 | []=>none
 | (a,b)::r=>if k=a then some b else aget k r
def aput {α β:Type} [DecidableEq α] (k:α) (v:β):List (α×β)→List (α×β)
 | []=>[(k,v)]
 | (a,b)::r=>if k=a then (a,v)::r else (a,b)::aput k v r
def adel {α β:Type} [DecidableEq α] (k:α):List (α×β)→List (α×β)
 | []=>[]
 | (a,b)::r=>if k=a then r else (a,b)::adel k r
section
variable {α β:Type} [DecidableEq α] {f:α→V} {g:β→V}
theorem mget_map' (hk:∀a b,keq (f a) (f b)=decide (a=b)) (k:α):∀l:List (α×β),mget (f k) (l.map (kvV f g))=(aget k l).map g
 | []=>rfl
 | (a,b)::r=>by
  by_cases e:k=a
  ·simp [mget,aget,kvV,hk,e]
  ·simp [mget,aget,kvV,hk,e,mget_map' hk k r]
theorem mput_map' (hk:∀a b,keq (f a) (f b)=decide (a=b)) (k:α) (v:β):∀l:List (α×β),(aput k v l).map (kvV f g)=mput (f k) (g v) (l.map (kvV f g))
 | []=>rfl
 | (a,b)::r=>by
  by_cases e:k=a
  ·simp [mput,aput,kvV,hk,e]
  ·simp [mput,aput,kvV,hk,e,mput_map' hk k v r]
theorem mdel_map' (hk:∀a b,keq (f a) (f b)=decide (a=b)) (k:α):∀l:List (α×β),(adel k l).map (kvV f g)=mdel (f k) (l.map (kvV f g))
 | []=>rfl
 | (a,b)::r=>by
  by_cases e:k=a
  ·simp [mdel,adel,kvV,hk,e]
  ·simp [mdel,adel,kvV,hk,e,mdel_map' hk k r]
theorem mget_i {k:Int} {l:List (Int×β)}:mget (.int .i64 k) (l.map (kvV (V.int .i64) g))=(aget k l).map g:=mget_map' (fun _ _=>rfl) k l
theorem mget_s {k:Str} {l:List (Str×β)}:mget (.str k) (l.map (kvV V.str g))=(aget k l).map g:=mget_map' (fun _ _=>rfl) k l
theorem mput_i {k:Int} {v:β} {l:List (Int×β)}:(aput k v l).map (kvV (V.int .i64) g)=mput (.int .i64 k) (g v) (l.map (kvV (V.int .i64) g)):=mput_map' (fun _ _=>rfl) k v l
theorem mput_s {k:Str} {v:β} {l:List (Str×β)}:(aput k v l).map (kvV V.str g)=mput (.str k) (g v) (l.map (kvV V.str g)):=mput_map' (fun _ _=>rfl) k v l
theorem mdel_i {k:Int} {l:List (Int×β)}:(adel k l).map (kvV (V.int .i64) g)=mdel (.int .i64 k) (l.map (kvV (V.int .i64) g)):=mdel_map' (fun _ _=>rfl) k l
theorem mdel_s {k:Str} {l:List (Str×β)}:(adel k l).map (kvV V.str g)=mdel (.str k) (l.map (kvV V.str g)):=mdel_map' (fun _ _=>rfl) k l
end
theorem lk_b {d:Bool} {o:Option Bool}:lkuRes false (.bool d) (o.map V.bool)=.bool (o.getD d):=by cases o<;>rfl
theorem lk_i {d:Int} {o:Option Int}:lkuRes false (.int .i64 d) (o.map (V.int .i64))=.int .i64 (o.getD d):=by cases o<;>rfl
theorem lk_s {d:Str} {o:Option Str}:lkuRes false (.str d) (o.map V.str)=.str (o.getD d):=by cases o<;>rfl
theorem lk_l {α:Type} {f:α→V} {o:Option (List α)}:lkuRes false (.sl []) (o.map (slV f))=.sl ((o.getD []).map f):=by cases o<;>rfl
theorem lkt_b' {d:Bool} {o:Option Bool}:lkuRes true (.bool d) (o.map V.bool)=.tup [.bool (o.getD d),.bool o.isSome]:=by cases o<;>rfl
theorem lkt_i' {d:Int} {o:Option Int}:lkuRes true (.int .i64 d) (o.map (V.int .i64))=.tup [.int .i64 (o.getD d),.bool o.isSome]:=by cases o<;>rfl
theorem lkt_s' {d:Str} {o:Option Str}:lkuRes true (.str d) (o.map V.str)=.tup [.str (o.getD d),.bool o.isSome]:=by cases o<;>rfl
theorem lkt_l' {α:Type} {f:α→V} {o:Option (List α)}:lkuRes true (.sl []) (o.map (slV f))=.tup [.sl ((o.getD []).map f),.bool o.isSome]:=by cases o<;>rfl
theorem inb_and {i:Int} {n:Nat}:(0≤i∧i<(n:Int))=(inb i n=true):=propext inb_iff.symm
theorem inc_and {a b:Int} {n:Nat}:(0≤a∧a≤b∧b≤(n:Int))=(inc a b n=true):=propext inc_iff.symm
theorem room_and {n b:Nat}:(n*b≤140737488355328)=(room n b=true):=propext room_iff.symm
theorem roomI_and {n m:Int} {b:Nat}:(0≤n∧n≤m∧m*b≤140737488355328)=(roomI n m b=true):=propext roomI_iff.symm
theorem divs_and {a b:Int}:(0≤a∧0<b)=(divs a b=true):=propext divs_iff.symm
theorem rep_b {n:Nat} {b:Bool}:List.replicate n (V.bool b)=(List.replicate n b).map V.bool:=List.map_replicate.symm
theorem rep_u {n:Nat} {b:Int}:List.replicate n (V.int .u64 b)=(List.replicate n b).map (V.int .u64):=List.map_replicate.symm
theorem rep_ll {n:Nat}:List.replicate n (V.sl [])=(List.replicate n ([]:List Int)).map (slV (V.int .i64)):=by rw [List.map_replicate];rfl
theorem shok_and64 {a:Int}:(0≤a∧a≤64)=(shok a 64=true):=propext (by simp [shok])
theorem rep_i {n:Nat} {b:Int}:List.replicate n (V.int .i64 b)=(List.replicate n b).map (V.int .i64):=List.map_replicate.symm
open Classical in
noncomputable def amb {α:Type} (c:Bool) (a b:Option α):Option α:=if c=true→a=b then b else none
theorem amb_eq {α:Type} {c:Bool} {a b:Option α} (h:c=true→a=b):amb c a b=b:=by unfold amb;exact if_pos h
theorem amb_fork {α:Type} {c:Bool} {a b:Option α} {Q:α→Prop} {p A B:Prop} (h:Ok (amb c a b) Q) (hp:p→c=true) (h1:c=true→Ok a Q→A) (h2:Ok b Q→B):(p→A)∧B:=by
 unfold amb at h
 split at h
 ·rename_i hc
  exact ⟨fun x=>h1 (hp x) (by rw [hc (hp x)];exact h),h2 h⟩
 ·rw [Ok_none] at h;exact h.elim
theorem rngb_eq (k:IntKind) {n:Int}:rng k n=(rngb k n=true):=propext (by rw [←rng_iff];simp [rngb,inR])
theorem rngb_i32 {n:Int}:rng .i32 n=(rngb .i32 n=true):=rngb_eq .i32
theorem rngb_u32 {n:Int}:rng .u32 n=(rngb .u32 n=true):=rngb_eq .u32
theorem rngb_u64 {n:Int}:rng .u64 n=(rngb .u64 n=true):=rngb_eq .u64
theorem rngb_i16 {n:Int}:rng .i16 n=(rngb .i16 n=true):=rngb_eq .i16
theorem rngb_u16 {n:Int}:rng .u16 n=(rngb .u16 n=true):=rngb_eq .u16
attribute [irreducible] in64 inb inc room roomI divs shok rngb ltb
@[reducible,go_sem] def mo (i:MIns) (d:Nat):MOp:=⟨i,some d,none⟩
theorem kI {k:Nat} (h:(k:Int)+1≤9223372036854775807):in64 ((k:Int)+1)=true:=in64_iff.2 ⟨by omega,by omega⟩
structure Cv (p q:Prop):Prop where
 e:p=q
theorem Cv.r {p:Prop}:Cv p p:=⟨rfl⟩
theorem tB {p q:Prop} (h:q) (e:Cv p q:=by (simp (maxSteps:=400000) only [go_sem,Nat.reduceBEq,Nat.reduceAdd,Nat.reduceLeDiff,Nat.reduceSub,Nat.reduceMul,Int.reduceToNat,Int.reduceLT,Int.reduceLE];exact Cv.r)):p:=e.e▸h
theorem tH {p q:Prop} (h:p) (e:Cv p q:=by (simp (maxSteps:=400000) only [go_sem,Nat.reduceBEq,Nat.reduceAdd,Nat.reduceLeDiff,Nat.reduceSub,Nat.reduceMul,Int.reduceToNat,Int.reduceLT,Int.reduceLE];exact Cv.r)):q:=e.e▸h
theorem tU0 {p:Prop} (h:p:=by (refine ⟨?_,?_,?_⟩<;>(try simp (maxSteps:=400000) only [go_sem,Nat.reduceBEq,Nat.reduceAdd,Nat.reduceLeDiff,Nat.reduceSub,Nat.reduceMul,Int.reduceToNat,Int.reduceLT,Int.reduceLE,St.good,noAny,distinct,SubSt,subE,subHp])<;>(repeat' (first|exact trivial|rfl|apply And.intro|(simp;done))))):p:=h
theorem tU {p:Prop} (h:p:=by (refine ⟨?_,?_,?_⟩<;>(try simp (maxSteps:=400000) only [go_sem,Nat.reduceBEq,Nat.reduceAdd,Nat.reduceLeDiff,Nat.reduceSub,Nat.reduceMul,Int.reduceToNat,Int.reduceLT,Int.reduceLE,St.good,noAny,distinct,SubSt,subE,subHp, *])<;>(repeat' (first|exact trivial|rfl|apply And.intro|(simp [*];done)|(exfalso;simp only [Bool.not_eq_true',Bool.not_eq_false',decide_eq_true_eq,decide_eq_false_iff_not] at *;contradiction))))):p:=h
theorem tK {p q a b c d e:Prop} (h1:a) (h2:b) (h3:c) (h4:d) (h5:e) (h:q) (e:a→b→c→d→e→Cv p q:=by (intro h1 h2 h3 h4 h5;simp (maxSteps:=400000) only [go_sem,Nat.reduceBEq,Nat.reduceAdd,Nat.reduceLeDiff,Nat.reduceSub,Nat.reduceMul,Int.reduceToNat,Int.reduceLT,Int.reduceLE,h1,h2,h3,h4,h5];exact Cv.r)):p:=(e h1 h2 h3 h4 h5).e▸h
theorem kB {k n:Nat} (h:k<n):inb (k:Int) n=true:=inb_iff.2 ⟨Int.natCast_nonneg k,Int.ofNat_lt.2 h⟩
theorem getE_mapset {α:Type} [Inhabited α] {f:α→V} {l:List α} {i k:Nat} {a:α} (h:k<l.length):((l.map f).set i (f a))[k]?=some (f ((l.set i a).getD k default)):=by
 rw [←List.map_set,List.getElem?_map,List.getD_eq_getElem?_getD,List.getElem?_eq_getElem (by simpa using h)]
 rfl
theorem inb_nat {k n:Nat} (h:inb (k:Int) n=true):k<n:=Int.ofNat_lt.1 (inb_iff.1 h).2
theorem kD {k n:Nat} (h:k<n):decide ((k:Int)<(n:Int))=true:=decide_eq_true (Int.ofNat_lt.2 h)
theorem tZ {p:Prop} (x:p:=by (first|exact hQ _ h|exact trivial|exact False.elim h|(have hq:=hQ _ h;replace hq:=tH hq;exact hq)|(have hq:=hQ _ h;rw [List.take_of_length_le (by simp only [List.length_cons,List.length_map];omega)];exact hq))):p:=x
theorem inbG {i m:Int} {n:Nat} {a a':Prop} (h:inb i n=true∧a') (h1:inb i n=true→a'→a) (e:(n:Int)=m:=by rfl):(0≤i∧i<m)∧a:=⟨e▸inb_iff.1 h.1,h1 h.1 h.2⟩
theorem incG {a b m:Int} {n:Nat} {p p':Prop} (h:inc a b n=true∧p') (h1:inc a b n=true→p'→p) (e:(n:Int)=m:=by rfl):(0≤a∧a≤b∧b≤m)∧p:=⟨e▸inc_iff.1 h.1,h1 h.1 h.2⟩
theorem in64_byte {c:UInt8}:in64 (c.toNat:Int)=true:=by rw [in64_iff];have:=c.toNat_lt;omega
theorem has_byte {n:Nat} {c:UInt8}:(byteV c).has n=false:=by simp [byteV,V.has]
def fnV:Option Nat→V
 | none=>.nilf
 | some f=>.fn (.func f) []
theorem fnV_none:fnV none=.nilf:=rfl
theorem fnV_some {f:Nat}:fnV (some f)=.fn (.func f) []:=rfl
theorem fnV_sc {o:Option Nat}:(fnV o).sc=true:=by cases o<;>rfl
theorem fnV_one {o:Option Nat}:(fnV o).one=true:=by cases o<;>rfl
theorem fnV_has {n:Nat} {o:Option Nat}:(fnV o).has n=false:=by cases o<;>simp [fnV,V.has,V.hasL]
theorem fnV_cells {o:Option Nat}:(fnV o).cells=[fnV o]:=by cases o<;>rfl
theorem fnV_nany {o:Option Nat}:(fnV o).nany=true:=by cases o<;>rfl
theorem fnV_nav {o:Option Nat}:(fnV o).nav=true:=by cases o<;>rfl
theorem fnV_sw {a b:Nat} {o:Option Nat}:(fnV o).sw a b=fnV o:=by cases o<;>simp [fnV,V.sw,V.swL]
theorem fnV_unnil {o:Option Nat}:(fnV o).unnil=fnV o:=by cases o<;>simp [fnV,V.unnil]
theorem fnV_oids {o:Option Nat}:(fnV o).oids=[]:=by cases o<;>rfl
theorem fnz_fnV {ng:Bool} {o:Option Nat} {K:Eff→Prop}:fnz1 ng (fnV o) K=K (evl (.bool (bif ng then o.isSome else !o.isSome))):=by cases o<;>cases ng<;>rfl
theorem has_fn0 {n f:Nat}:(V.fn (.func f) []).has n=false:=by simp [V.has,V.hasL]
theorem box_fnV {d:Nat} {o:Option Nat} {K:Eff→Prop}:sBox d (fnV o) K=K ⟨.ptr d 0,[],[(d,.cells [fnV o])]⟩:=by cases o<;>rfl
attribute [go_sem] fnV_none fnV_some fnV_sc fnV_one fnV_has fnV_cells fnV_nany fnV_nav fnV_sw fnV_unnil fnV_oids fnz_fnV has_fn0 box_fnV
theorem has_ifc {n:Nat} {b:Bool}:(V.ifc b).has n=false:=by simp [V.has]
theorem has_adr {n b o:Nat}:(V.adr b o).has n=false:=by simp [V.has]
theorem has_at {n i b:Nat}:(V.at_ i b).has n=Nat.beq n i:=by simp [V.has]
attribute [go_sem] has_ifc has_adr has_at
attribute [go_sem] nzb_and nzb_and'
attribute [irreducible] nzb
attribute [go_sem] in64_byte has_byte List.getElem?_cons_zero List.getElem?_cons_succ
inductive IsMap {α:Type} (f:α→V):List V→List α→Prop
 | nil:IsMap f [] []
 | cons {a:α} {L:List V} {l:List α} (h:IsMap f L l):IsMap f (f a::L) (a::l)
theorem IsMap.app {α:Type} {f:α→V} {l:List α} {L:List V} {l':List α} (h:IsMap f L l'):IsMap f (l.map f++L) (l++l'):=by
 induction l with
 | nil=>exact h
 | cons a l ih=>exact .cons ih
theorem IsMap.eq {α:Type} {f:α→V} {L:List V} {l:List α} (h:IsMap f L l):L=l.map f:=by
 induction h with
 | nil=>rfl
 | cons h ih=>rw [ih];rfl
theorem tE4 {α:Type} [Inhabited α] {L:List V} {l:List α} (f:α→V) {i:Nat} {p:V→Prop} (b:p (f (l.getD i default))) (e:IsMap f L l:=by repeat (first|exact IsMap.nil|apply IsMap.cons)) (h:i<l.length:=by first|assumption|exact inb_toNat (by assumption)):∃x,L[i]?=some x∧p x:=e.eq▸⟨_,getE_map h,b⟩
theorem ex_bytes_set {l:List UInt8} {i:Nat} {c:UInt8} {p:List UInt8→Prop}:(∃t:List UInt8,(l.map byteV).set i (V.int .u8 (c.toNat:Int))=t.map byteV∧p t)=p (l.set i c):=by
 have e:(l.map byteV).set i (V.int .u8 (c.toNat:Int))=(l.set i c).map byteV:=by rw [List.map_set];rfl
 rw [e,ex_bytes]
theorem Mach.b2s_set {M:Mach} {c:Cfg} {d:Option Nat} {r:List MOp} {s:List Fr} {e:List (Nat×V)} {h:Heap} {l:List UInt8} {i n:Nat} {b:UInt8}:(∃t:List UInt8,(l.map byteV).set i (V.int .u8 (b.toNat:Int))=t.map byteV∧t.length=n∧compK (M.lok c d r s e h) (.str t))=((l.set i b).length=n∧compK (M.aft c d r s e h) (.str (l.set i b))):=by rw [ex_bytes_set,M.lok_comp]
theorem Mach.b2s_setD {M:Mach} {c:Cfg} {anc:List (List Nat)} {e0 e:List (Nat×V)} {h0 h:Heap} {d:Option Nat} {u t m:List Nat} {r:List MOp} {log:List Ent} {s:List Fr} {l:List UInt8} {i n:Nat} {b:UInt8}:(∃t':List UInt8,(l.map byteV).set i (V.int .u8 (b.toNat:Int))=t'.map byteV∧t'.length=n∧compK (M.lokD c anc e0 h0 d u t m r log s e h) (.str t'))=((l.set i b).length=n∧compK (M.aftD c anc e0 h0 d u t m r log s e h) (.str (l.set i b))):=by rw [ex_bytes_set,M.lokD_comp]
theorem divG {n m:Int} {a a':Prop} (h:divs n m=true∧a') (h1:divs n m=true→a'→a):0≤n∧a:=⟨(divs_iff.1 h.1).1,h1 h.1 h.2⟩
theorem tA {p q:Prop} (b:q) (a:p:=by (first|exact chkD_of rfl|assumption|exact ltb_of (by assumption)|exact inb_nat (by assumption)|omega)):p∧q:=⟨a,b⟩
theorem tE {α:Type} [Inhabited α] {f:α→V} {l:List α} {i:Nat} {p:V→Prop} (b:p (f (l.getD i default))) (h:i<l.length:=by exact inb_toNat (by assumption)):∃x,(l.map f)[i]?=some x∧p x:=⟨_,getE_map h,b⟩
theorem tY {a b:Prop} (h:a) (e:Cv a b:=by (first|(simp (maxSteps:=400000) only [go_sem,Nat.reduceBEq,Nat.reduceAdd,Nat.reduceLeDiff,Nat.reduceSub,Nat.reduceMul,Int.reduceToNat,Int.reduceLT,Int.reduceLE];exact Cv.r)|exact Cv.r)):b:=e.e▸h
theorem Mach.sC (M:Mach) {P:Program} {n:Nat} {args cap:List V} {ids news:List Nat} {ob:Nat→Option Obj'} {H H1:Heap} {r:V} {c:Cfg} {d:Option Nat} {o:List MOp} {s:List Fr} {e:List (Nat×V)} {h:Heap} (hc:ACall P n (args++cap) H (fun r' H'=>r'=r∧H'=H1)) (x:M.aft c d o s e h ⟨r,ids,H1⟩)
  (hs:subH ids ob=some H:=by rfl) (hi:inIds H1 ids news=true:=by rfl):sCall P (.fn (.func n) cap) args ids news ob (M.lok c d o s e h):=sCall_of hc hs hi (by rw [M.lok_eq];exact x)
theorem Mach.sD (M:Mach) {P:Program} {n:Nat} {args cap:List V} {ids news:List Nat} {ob:Nat→Option Obj'} {H H1:Heap} {r:V} {c:Cfg} {anc:List (List Nat)} {e0:List (Nat×V)} {h0:Heap} {d:Option Nat} {u t m:List Nat} {o:List MOp} {log:List Ent} {s:List Fr} {e:List (Nat×V)} {h:Heap} (hc:ACall P n (args++cap) H (fun r' H'=>r'=r∧H'=H1)) (x:M.aftD c anc e0 h0 d u t m o log s e h ⟨r,ids,H1⟩)
  (hs:subH ids ob=some H:=by rfl) (hi:inIds H1 ids news=true:=by rfl):sCallD P (.fn (.func n) cap) args ids news ob (M.lokD c anc e0 h0 d u t m o log s e h):=sCallD_of hc hs hi (by rw [M.lokD_eq];exact x)
def Cn {α:Type} (P:Program) (n:Nat) (args:List V) (H:Heap) (F:Option α) (RV:α→V) (HV:α→Heap):Prop:=∀(Q:α→Prop) (Q':V→Heap→Prop),Ok F Q→(∀z,Q z→Q' (RV z) (HV z))→ACall P n args H Q'
theorem Cn.w {α:Type} {F:Option α} {P:Program} {n:Nat} {args:List V} {H:Heap} {RV:α→V} {HV:α→Heap} (h:Cn P n args H F RV HV) {y:α} (hy:F=some y):ACall P n args H (fun r H'=>r=RV y∧H'=HV y) :=
 h (·=y) _ ⟨_,hy,rfl⟩ fun z e=>e▸⟨rfl,rfl⟩
@[reducible,go_sem] def oV (a d:Nat):MOp:=⟨.mv (.t a),some d,none⟩
@[reducible,go_sem] def oL (a d:Nat):MOp:=⟨.ld none (.t a),some d,none⟩
@[reducible,go_sem] def oF (o a d:Nat):MOp:=⟨.fad o (.t a),some d,none⟩
@[reducible,go_sem] def cI (n:Int):Opd:=.c (.int .i64 n)
@[reducible,go_sem] def oC (n:Int) (d:Nat):MOp:=⟨.mv (.c (.int .i64 n)),some d,none⟩
@[reducible,go_sem] def gF (s d:Nat) (i:MIns):MOp:=⟨i,some d,some (s,false)⟩
@[reducible,go_sem] def gT (s d:Nat) (i:MIns):MOp:=⟨i,some d,some (s,true)⟩
@[reducible,go_sem] def sR (l:List MOp) (b:MC):MC:=.seq (.reg l) b
theorem acallM {P:Program} {f:Nat} {fn:Func} {args:List V} {H:Heap} {Q:V→Heap→Prop} (mc:MC) (ns:List Note) (rids:List Nat) (rs:List RS) (hf:P.funcs[f]?=some fn)
  (h:∀M:Mach,M.go ⟨P,H,atEndN H ns rids rs Q,fun _ _=>False,atEndN H ns rids rs Q⟩ mc [] ⟨enumE 0 args,H⟩) (hb:fn.body=some (fn.body.getD .skip):=by rfl) (hc:callable P f=true:=by kernel_rfl)
  (hok:mc.ok P fn.ntmps (fn.body.getD .skip)=true:=by kernel_rfl) (hnh:mc.nh=true:=by kernel_rfl) (hrs:resOK P rs fn.results.toList=true:=by kernel_rfl) (hn:Nat.ble args.length fn.ntmps=true:=by rfl) (hg:St.good ⟨enumE 0 args,H⟩=true:=by rfl):ACall P f args H Q :=
 acall_machN ns rids rs hf hb hc hnh hok hrs hn hg fun M _=>h M
end Go.Ab
