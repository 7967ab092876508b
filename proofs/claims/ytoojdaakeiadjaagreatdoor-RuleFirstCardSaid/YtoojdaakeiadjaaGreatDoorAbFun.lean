/- The abstract layer, part 24: plain functions that may have no result, and how a run follows them. -/
import Derived.Test.YtoojdaakeiadjaaGreatDoorAbNote
import Derived.KernelRfl
import Derived.ChangeArms
import Derived.ChangeShapes
import Derived.WideKeyArgs
import Derived.ChangeSame
import Derived.WideShapes
import Derived.Stop.LaidErr
import Derived.Sort.Row
import Derived.Sort.Grow
import Derived.Laws.IdiomCopy
import Derived.Lib.SlicesCompact
import Derived.Deep.OwnRows
import Derived.Lib.Overlaps
import Derived.Shelf.SlicesE.DeleteFunc
import Derived.Lib.ItoaLen
import Derived.Lib.AtoiAllCases
import Derived.Lib.SmallJoins
set_option linter.all false
set_option linter.unusedVariables false
namespace Go.Ab
open Go.RowKit
noncomputable section
abbrev Str:=List UInt8
def Ok {α:Type} (o:Option α) (Q:α→Prop):Prop:=∃y,o=some y∧Q y
theorem b2d {α:Type} {x:α} {Q:α→Prop}:Ok (some x) Q=Q x:=propext ⟨fun ⟨_,e,h⟩=>by cases e;exact h,fun h=>⟨x,rfl,h⟩⟩
theorem c1l {α:Type} {Q:α→Prop}:Ok none Q=False:=by simp [Ok]
theorem a9l {α β:Type} {o:Option α} {f:α→Option β} {Q:β→Prop}:Ok (o.bind f) Q=∃y,o=some y∧Ok (f y) Q:=propext
 ⟨fun ⟨z,e,h⟩=>by
  cases o with
  | none=>cases e
  | some y=>exact ⟨y,rfl,z,e,h⟩,fun ⟨y,e,z,e',h⟩=>⟨z,by rw [e];exact e',h⟩⟩
theorem d4o {α:Type} {b:Bool} {x y:Option α} {Q:α→Prop}:Ok (bif b then x else y) Q=((b=true→Ok x Q)∧(b=false→Ok y Q)):=by
 cases b<;>simp
def chk {α:Type} (b:Bool) (o:Option α):Option α:=bif b then o else none
theorem d4p {α:Type} {b:Bool} {o:Option α} {Q:α→Prop}:Ok (chk b o) Q=(b=true∧Ok o Q):=by
 cases b<;>simp [chk,c1l]
def jn {α β:Type} (o:Option α) (f:α→Option β):Option β:=o.bind f
theorem d9c {α β:Type} {o:Option α} {f:α→Option β}:jn o f=o.bind f:=rfl
def grp {α β:Type} (x:α) (f:α→Option β):Option β:=f x
theorem e6z {α β:Type} {x:α} {f:α→Option β}:grp x f=f x:=rfl
def a0c (n:Int):Bool:=decide (-9223372036854775808≤n)&&decide (n≤9223372036854775807)
theorem a8p {n:Int}:a0c n=true↔-9223372036854775808≤n∧n≤9223372036854775807:=by simp [a0c]
theorem f4s {n:Int}:rng .i64 n=(a0c n=true):=propext (by simp [rng,a0c])
def inb (i:Int) (n:Nat):Bool:=decide (0≤i)&&decide (i<n)
theorem a18 {i:Int} {n:Nat}:inb i n=true↔0≤i∧i<n:=by simp [inb]
theorem a1y {i:Int} {n:Nat} (h:inb i n=true):i.toNat<n:=by have:=a18.1 h;omega
def inc (a b:Int) (n:Nat):Bool:=decide (0≤a)&&(decide (a≤b)&&decide (b≤n))
theorem a7y {a b:Int} {n:Nat}:inc a b n=true↔0≤a∧a≤b∧b≤n:=by simp [inc]
def room (n bytes:Nat):Bool:=decide (n*bytes≤140737488355328)
theorem b41 {n b:Nat}:room n b=true↔n*b≤140737488355328:=by simp [room]
def a98 (n m:Int) (b:Nat):Bool:=decide (0≤n)&&(decide (n≤m)&&decide (m*b≤140737488355328))
theorem b4j {n m:Int} {b:Nat}:a98 n m b=true↔0≤n∧n≤m∧m*b≤140737488355328:=by simp [a98]
inductive Fl (σ ρ:Type) where
 | nx (s:σ)
 | ex (r:ρ)
def Fl.elim {σ ρ γ:Type} (f:σ→γ) (g:ρ→γ):Fl σ ρ→γ
 | .nx s=>f s
 | .ex r=>g r
theorem d3n {σ ρ γ:Type} {f:σ→γ} {g:ρ→γ} {s:σ}:Fl.elim f g (.nx s)=f s:=rfl
theorem e0y {σ ρ γ:Type} {f:σ→γ} {g:ρ→γ} {r:ρ}:Fl.elim f g (.ex r)=g r:=rfl
def forL {α σ ρ:Type} (body:Int→α→σ→Option (Fl σ ρ)):List α→Int→σ→Option (Fl σ ρ)
 | [],_,s=>some (.nx s)
 | x::r,i,s=>(body i x s).bind fun o=>o.elim (fun s'=>forL body r (i+1) s') fun e=>some (.ex e)
def foldL {α σ:Type} (body:Int→α→σ→Option σ):List α→Int→σ→Option σ
 | [],_,s=>some s
 | x::r,i,s=>(body i x s).bind fun s'=>foldL body r (i+1) s'
def iter {σ ρ:Type} (step:σ→Option (Fl σ ρ)):Nat→σ→Option ρ
 | 0,_=>none
 | n+1,s=>(step s).bind fun o=>o.elim (iter step n) some
theorem b51 {σ ρ:Type} {step:σ→Option (Fl σ ρ)}:∀{n m:Nat} {s:σ} {r:ρ},n≤m→iter step n s=some r→iter step m s=some r
 | 0,_,_,_,_,h=>by cases h
 | n+1,0,_,_,hle,_=>by omega
 | n+1,m+1,s,r,hle,h=>by
  simp only [iter] at h ⊢
  cases hs:step s with
  | none=>rw [hs] at h;cases h
  | some o =>
   rw [hs] at h
   cases o with
   | nx s'=>exact b51 (n:=n) (m:=m) (by omega) h
   | ex r'=>exact h
open Classical in
def loop {σ ρ:Type} (step:σ→Option (Fl σ ρ)) (s:σ):Option ρ:=if h:∃n r,iter step n s=some r then iter step h.choose s else none
theorem a5b {σ ρ:Type} {step:σ→Option (Fl σ ρ)} {s:σ} {r:ρ}:loop step s=some r↔∃n,iter step n s=some r:=by
 unfold loop
 constructor
 ·intro h
  split at h
  ·exact ⟨_,h⟩
  ·cases h
 ·rintro ⟨n,h⟩
  have hx:∃n r,iter step n s=some r:=⟨n,r,h⟩
  rw [dif_pos hx]
  obtain ⟨r',h'⟩:=hx.choose_spec
  have a:=b51 (Nat.le_max_left hx.choose n) h'
  have b:=b51 (Nat.le_max_right hx.choose n) h
  rw [a] at b;rw [h',b]
theorem d97 {σ ρ:Type} {step:σ→Option (Fl σ ρ)} {s:σ}:loop step s=(step s).bind fun o=>o.elim (loop step) some:=by
 apply Option.ext
 intro r
 rw [a5b]
 constructor
 ·rintro ⟨n,h⟩
  cases n with
  | zero=>cases h
  | succ n =>
   simp only [iter] at h
   cases hs:step s with
   | none=>rw [hs] at h;cases h
   | some o =>
    rw [hs] at h
    cases o with
    | nx s'=>exact a5b.2 ⟨n,h⟩
    | ex r'=>exact h
 ·intro h
  cases hs:step s with
  | none=>rw [hs] at h;cases h
  | some o =>
   rw [hs] at h
   cases o with
   | nx s' =>
    obtain ⟨n,hn⟩:=a5b.1 h
    exact ⟨n+1,by simp only [iter,hs];exact hn⟩
   | ex r'=>exact ⟨1,by simp only [iter,hs];exact h⟩
def EvS {α:Type} (f:Nat→Option α) (r:α):Prop:=∃n,∀m,n≤m→f m=some r
open Classical in
def lim {α:Type} (f:Nat→Option α):Option α:=if h:∃r,EvS f r then some h.choose else none
theorem b6n {α:Type} {f:Nat→Option α} {r:α} (h:EvS f r):lim f=some r:=by
 have hx:∃r,EvS f r:=⟨r,h⟩
 unfold lim
 rw [dif_pos hx]
 obtain ⟨n,hn⟩:=h
 obtain ⟨m,hm⟩:=hx.choose_spec
 have a:=hn (max n m) (Nat.le_max_left _ _)
 have b:=hm (max n m) (Nat.le_max_right _ _)
 rw [a] at b;exact b.symm
theorem a0n {α:Type} {f:Nat→Option α} {r:α} (h:lim f=some r):∃n,f n=some r:=by
 unfold lim at h
 split at h
 ·rename_i hx
  cases h
  obtain ⟨n,hn⟩:=hx.choose_spec
  exact ⟨n,hn n (w8 _)⟩
 ·cases h
open Classical in
def d69 {α γ:Type} (f:List α→Option γ) (es:List α):Option γ:=if h:∃r,∀l,l.Perm es→f l=some r then some h.choose else none
theorem c22 {α γ:Type} {f:List α→Option γ} {es:List α} {r:γ} (h:∀l,l.Perm es→f l=some r):d69 f es=some r:=by
 have hx:∃r,∀l,l.Perm es→f l=some r:=⟨r,h⟩
 unfold d69
 rw [dif_pos hx]
 have:=hx.choose_spec es (List.Perm.refl _)
 rw [h es (List.Perm.refl _)] at this;exact this.symm
section
variable {M:a0r} {c:Cfg} {e:List (Nat×V)} {h:Heap} {s:List Fr}
theorem a0r.go_jn {α β:Type} {a b:MC} {A:Option α} {B:α→Option β} {Q:β→Prop} (I:α→St) (ns:List a5r) (hF:Ok (jn A B) Q)
  (h1:∀(Qn:α→Prop) (K:St→Prop),(∀σ',(a0f c.H0 ns σ' fun σ'=>∃y,Qn y∧a0p (I y) σ')→K σ')→Ok A Qn→M.go ⟨c.P,c.H0,K,M.kX c s,c.R⟩ a [] ⟨e,h⟩)
  (h2:∀y,Ok (B y) Q→factsSt (I y)→M.go c b s (I y)):M.go c (.cut a b) s ⟨e,h⟩:=by
 rw [d9c,a9l] at hF
 obtain ⟨y0,e0,h0⟩:=hF
 exact M.go_cut I (fun y=>Ok (B y) Q) ns (h1 _ _ (fun σ' h=>Lk.mk h) ⟨y0,e0,h0⟩) h2
theorem a0r.go_gr {α:Type} {ms:List MOp} {its:List It} {A:Option α} {β:Type} {B:α→Option β} {Q:β→Prop} (I:α→St) (hF:Ok (jn A B) Q)
  (h1:∀(Qn:α→Prop) (K:St→Prop),(∀σ',(∃y,Qn y∧a0p (I y) σ')→K σ')→Ok A Qn→M.ops ⟨c.P,c.H0,K,fun _ _=>False,fun _=>False⟩ ms [] ⟨e,h⟩)
  (h2:∀y,Ok (B y) Q→factsSt (I y)→M.kN c (.it its::s) (I y)):M.grpC c ms its s ⟨e,h⟩:=by
 rw [d9c,a9l] at hF
 obtain ⟨y0,e0,h0⟩:=hF
 exact M.go_grp I (fun y=>Ok (B y) Q) (h1 _ _ (fun σ' h=>Lk.mk h) ⟨y0,e0,h0⟩) h2
theorem a0r.go_gv {α:Type} {ms:List MOp} {its:List It} {x:α} {β:Type} {B:α→Option β} {Q:β→Prop} (I:α→St) (hF:Ok (grp x B) Q)
  (h1:∀(K:St→Prop),(∀σ',a0p (I x) σ'→K σ')→M.ops ⟨c.P,c.H0,K,fun _ _=>False,fun _=>False⟩ ms [] ⟨e,h⟩)
  (h2:Ok (B x) Q→M.kN c (.it its::s) (I x)):M.grpC c ms its s ⟨e,h⟩:=by
 rw [e6z] at hF
 exact M.go_grp (fun _:Unit=>I x) (fun _=>True) (h1 _ fun σ' h=>Lk.mk ⟨(),trivial,h⟩) fun _ _ hf=>h2 hF
theorem a0r.go_while {σ ρ:Type} {b:MC} {step:σ→Option (Fl σ ρ)} {s0:σ} {Q:ρ→Prop} (I:σ→St) (ns:List a5r) (hF:Ok (loop step s0) Q)
  (h0:a0f c.H0 ns ⟨e,h⟩ fun σ'=>a0p (I s0) σ')
  (round:∀(x:σ) (Qn:σ→Prop) (K:St→Prop),(∀σ',(a0f c.H0 ns σ' fun σ'=>∃y,Qn y∧a0p (I y) σ')→K σ')→Ok (step x) (Fl.elim Qn Q)→factsSt (I x)→M.go ⟨c.P,c.H0,K,M.kX c s,c.R⟩ b [] (I x)):M.go c (.loop b) s ⟨e,h⟩:=by
 obtain ⟨r,hr,hQ⟩:=hF
 obtain ⟨n,hn⟩:=a5b.1 hr
 refine M.go_loop (fun x:Nat×σ=>I x.2) (fun x=>Ok (iter step x.1 x.2) Q) (fun x=>x.1) ns (a1w (fun σ' h=>⟨(n,s0),⟨r,hn,hQ⟩,h⟩) h0) fun x hx hf=>?_
 obtain ⟨m,x⟩:=x
 obtain ⟨r',hr',hQ'⟩:=hx
 cases m with
 | zero=>cases hr'
 | succ m =>
  refine round x (fun y=>Ok (iter step m y) Q) _ (fun σ' h=>Lk.mk (a1w (fun σ'' ⟨y,h1,h2⟩=>⟨(m,y),h1,Nat.lt_succ_self m,h2⟩) h)) ?_ hf
  simp only [iter] at hr'
  cases hs:step x with
  | none=>rw [hs] at hr';cases hr'
  | some o =>
   rw [hs] at hr'
   refine ⟨o,rfl,?_⟩
   cases o with
   | nx y=>exact ⟨r',hr',hQ'⟩
   | ex r2=>cases hr';exact hQ'
theorem b5c {α:Type} [Inhabited α] {xs:List α} {k:Nat} (h:k<xs.length):xs.drop k=xs.getD k default::xs.drop (k+1):=by
 rw [List.drop_eq_getElem_cons h];simp [h]
theorem a0r.go_for {α σ ρ:Type} [Inhabited α] {b:MC} {body:Int→α→σ→Option (Fl σ ρ)} {xs:List α} {s0:σ} {Q:Fl σ ρ→Prop} (I:Nat→σ→St) (ns:List a5r) (hF:Ok (forL body xs 0 s0) Q)
  (h0:a0f c.H0 ns ⟨e,h⟩ fun σ'=>a0p (I 0 s0) σ')
  (round:∀(k:Nat) (a:α) (x:σ) (Qn:σ→Prop) (K:St→Prop),(∀σ',(a0f c.H0 ns σ' fun σ'=>∃y,Qn y∧a0p (I (k+1) y) σ')→K σ')→k<xs.length→xs.getD k default=a→Ok (body k a x) (Fl.elim Qn fun r=>Q (.ex r))→factsSt (I k x) →
   M.go ⟨c.P,c.H0,K,M.kX c s,c.R⟩ b [] (I k x))
  (stop:∀(k:Nat) (x:σ) (K:St→Prop),k=xs.length→Q (.nx x)→factsSt (I k x)→M.go ⟨c.P,c.H0,K,M.kX c s,c.R⟩ b [] (I k x)):M.go c (.loop b) s ⟨e,h⟩:=by
 refine M.go_loop (fun x:Nat×σ=>I x.1 x.2) (fun x=>x.1≤xs.length∧Ok (forL body (xs.drop x.1) x.1 x.2) Q) (fun x=>xs.length - x.1) ns (a1w (fun σ' h=>⟨(0,s0),⟨w6 _,hF⟩,h⟩) h0) fun x hx hf=>?_
 obtain ⟨k,x⟩:=x
 obtain ⟨hk,hx⟩:=hx
 simp only at hk hx hf
 rcases Nat.lt_or_ge k xs.length with hlt|hge
 ·refine round k _ x (fun y=>Ok (forL body (xs.drop (k+1)) (k+1:Nat) y) Q) _ (fun σ' h=>Lk.mk (a1w (fun σ'' ⟨y,h1,h2⟩=>⟨(k+1,y),⟨hlt,h1⟩,by show xs.length - (k+1)<xs.length - k;omega,h2⟩) h)) hlt rfl ?_ hf
  rw [b5c hlt] at hx
  simp only [forL,a9l] at hx
  obtain ⟨o,ho,hx⟩:=hx
  refine ⟨o,ho,?_⟩
  cases o with
  | nx y=>exact hx
  | ex r=>simpa only [Fl.elim,b2d] using hx
 ·have e1:k=xs.length:=by omega
  subst e1
  rw [List.drop_length] at hx
  simp only [forL,b2d] at hx
  exact stop _ x _ rfl hx hf
theorem a0r.go_fold {α σ:Type} [Inhabited α] {b:MC} {body:Int→α→σ→Option σ} {xs:List α} {s0:σ} {Q:σ→Prop} (I:Nat→σ→St) (ns:List a5r) (hF:Ok (foldL body xs 0 s0) Q)
  (h0:a0f c.H0 ns ⟨e,h⟩ fun σ'=>a0p (I 0 s0) σ')
  (round:∀(k:Nat) (a:α) (x:σ) (Qn:σ→Prop) (K:St→Prop),(∀σ',(a0f c.H0 ns σ' fun σ'=>∃y,Qn y∧a0p (I (k+1) y) σ')→K σ')→k<xs.length→xs.getD k default=a→Ok (body k a x) Qn→factsSt (I k x) →
   M.go ⟨c.P,c.H0,K,M.kX c s,c.R⟩ b [] (I k x))
  (stop:∀(k:Nat) (x:σ) (K:St→Prop),k=xs.length→Q x→factsSt (I k x)→M.go ⟨c.P,c.H0,K,M.kX c s,c.R⟩ b [] (I k x)):M.go c (.loop b) s ⟨e,h⟩:=by
 refine M.go_loop (fun x:Nat×σ=>I x.1 x.2) (fun x=>x.1≤xs.length∧Ok (foldL body (xs.drop x.1) x.1 x.2) Q) (fun x=>xs.length - x.1) ns (a1w (fun σ' h=>⟨(0,s0),⟨w6 _,hF⟩,h⟩) h0) fun x hx hf=>?_
 obtain ⟨k,x⟩:=x
 obtain ⟨hk,hx⟩:=hx
 simp only at hk hx hf
 rcases Nat.lt_or_ge k xs.length with hlt|hge
 ·refine round k _ x (fun y=>Ok (foldL body (xs.drop (k+1)) (k+1:Nat) y) Q) _ (fun σ' h=>Lk.mk (a1w (fun σ'' ⟨y,h1,h2⟩=>⟨(k+1,y),⟨hlt,h1⟩,by show xs.length - (k+1)<xs.length - k;omega,h2⟩) h)) hlt rfl ?_ hf
  rw [b5c hlt] at hx
  simp only [foldL,a9l] at hx
  obtain ⟨o,ho,hx⟩:=hx
  exact ⟨o,ho,hx⟩
 ·have e1:k=xs.length:=by omega
  subst e1
  rw [List.drop_length] at hx
  simp only [foldL,b2d] at hx
  exact stop _ x _ rfl hx hf
end
def ovE:List (Nat×V)→List (Nat×V)→List (Nat×V)
 | [],e=>e
 | (n,x)::r,e=>ovE r (put n x e)
def d2m (keep:List Nat):Heap→Heap
 | []=>[]
 | (n,x)::r=>bif mem n keep then (n,x)::d2m keep r else d2m keep r
inductive Up where
 | o (id:Nat) (o:a03)
 | p (id off:Nat) (cs:List V)
def f8b (off:Nat) (cs:List V):a03→a03
 | .cells ds t=>.cells (setCells ds off cs) t
 | o=>o
def ovU:List Up→Heap→Heap
 | [],h=>h
 | .o id o::r,h=>ovU r (put id o h)
 | .p id off cs::r,h=>ovU r (match find id h with|some o=>put id (f8b off cs o) h|none=>h)
def ovS (e:List (Nat×V)) (h:Heap) (ke kh:List Nat) (ue:List (Nat×V)) (uh:List Up):St:=⟨ovE ue (c9n ke e),ovU uh (d2m kh h)⟩
theorem a14 {n:Nat} {x:V}:∀{e:List (Nat×V)},c2x e→find n e=some x→x.fact
 | (m,y)::r,h,hf=>by
  simp only [find] at hf
  cases hb:Nat.beq n m with
  | true=>rw [hb] at hf;cases hf;exact h.1
  | false=>rw [hb] at hf;exact a14 h.2 hf
theorem d9x {α:Type} {f:α→V} {xs:List α} (h:(V.sl (xs.map f)).fact):xs.length≤9223372036854775807:=by simpa using h.1
section
variable {M:a0r} {c:Cfg} {e:List (Nat×V)} {h:Heap} {s:List Fr}
theorem a0r.jn1 {α β:Type} {a b:MC} {A:Option α} {B:α→Option β} {Q:β→Prop} (ke kh:List Nat) (ue:α→List (Nat×V)) (uh:α→List Up) (ns:List a5r) (hF:Ok (jn A B) Q)
  (h1:∀(Qn:α→Prop) (K:St→Prop),(∀σ',(a0f c.H0 ns σ' fun σ'=>∃y,Qn y∧a0p (ovS e h ke kh (ue y) (uh y)) σ')→K σ')→Ok A Qn→M.go ⟨c.P,c.H0,K,M.kX c s,c.R⟩ a [] ⟨e,h⟩)
  (h2:∀y,Ok (B y) Q→M.go c b s (ovS e h ke kh (ue y) (uh y))):M.go c (.cut a b) s ⟨e,h⟩ :=
 M.go_jn (fun y=>ovS e h ke kh (ue y) (uh y)) ns hF h1 fun y hy _=>h2 y hy
theorem a0r.jnE {α β ρ:Type} {a b:MC} {A:Option (Fl α ρ)} {B:α→Option β} {E:ρ→Option β} {Q:β→Prop} (ke kh:List Nat) (ue:α→List (Nat×V)) (uh:α→List Up) (ns:List a5r) (hF:Ok (jn A fun o=>o.elim B E) Q)
  (h1:∀(Qn:α→Prop) (K:St→Prop),(∀σ',(a0f c.H0 ns σ' fun σ'=>∃y,Qn y∧a0p (ovS e h ke kh (ue y) (uh y)) σ')→K σ')→Ok A (Fl.elim Qn fun r=>Ok (E r) Q)→M.go ⟨c.P,c.H0,K,M.kX c s,c.R⟩ a [] ⟨e,h⟩)
  (h2:∀y,Ok (B y) Q→M.go c b s (ovS e h ke kh (ue y) (uh y))):M.go c (.cut a b) s ⟨e,h⟩:=by
 rw [d9c,a9l] at hF
 obtain ⟨y0,e0,h0⟩:=hF
 refine M.go_cut (fun y=>ovS e h ke kh (ue y) (uh y)) (fun y=>Ok (B y) Q) ns (h1 (fun y=>Ok (B y) Q) _ (fun σ' h=>Lk.mk h) ⟨y0,e0,?_⟩) fun y hy _=>h2 y hy
 cases y0 with
 | nx x=>exact h0
 | ex r=>exact h0
theorem a0r.gj1 {α β:Type} {ms:List MOp} {its:List It} {A:Option α} {B:α→Option β} {Q:β→Prop} (ke kh:List Nat) (ue:α→List (Nat×V)) (uh:α→List Up) (hF:Ok (jn A B) Q)
  (h1:∀(Qn:α→Prop) (K:St→Prop),(∀σ',(∃y,Qn y∧a0p (ovS e h ke kh (ue y) (uh y)) σ')→K σ')→Ok A Qn→M.ops ⟨c.P,c.H0,K,fun _ _=>False,fun _=>False⟩ ms [] ⟨e,h⟩)
  (h2:∀y,Ok (B y) Q→M.kN c (.it its::s) (ovS e h ke kh (ue y) (uh y))):M.grpC c ms its s ⟨e,h⟩ :=
 M.go_gr (fun y=>ovS e h ke kh (ue y) (uh y)) hF h1 fun y hy _=>h2 y hy
def b9j (ds:List Nat):List (Nat×V)→List (Nat×V)
 | []=>[]
 | (n,x)::r=>bif mem n ds then b9j ds r else (n,x)::b9j ds r
theorem a0r.gv1 {ms:List MOp} {its:List It} {x:Bool} {β:Type} {B:Bool→Option β} {Q:β→Prop} (d:Nat) (ds:List Nat) (hF:Ok (grp x B) Q)
  (h1:∀(K:St→Prop),(∀σ',a0p ⟨put d (.bool x) (b9j ds e),h⟩ σ'→K σ')→M.ops ⟨c.P,c.H0,K,fun _ _=>False,fun _=>False⟩ ms [] ⟨e,h⟩)
  (h2:∀b,Ok (B b) Q→M.kN c (.it its::s) ⟨put d (.bool b) (b9j ds e),h⟩):M.grpC c ms its s ⟨e,h⟩ :=
 M.go_gv (fun b=>⟨put d (.bool b) (b9j ds e),h⟩) hF h1 (h2 x)
theorem a0r.wh1 {σ ρ:Type} {b:MC} {step:σ→Option (Fl σ ρ)} {s0:σ} {Q:ρ→Prop} (ke kh:List Nat) (ue:σ→List (Nat×V)) (uh:σ→List Up) (ns:List a5r) (hF:Ok (loop step s0) Q)
  (h0:a0f c.H0 ns ⟨e,h⟩ fun σ'=>a0p (ovS e h ke kh (ue s0) (uh s0)) σ')
  (round:∀(x:σ) (Qn:σ→Prop) (K:St→Prop),(∀σ',(a0f c.H0 ns σ' fun σ'=>∃y,Qn y∧a0p (ovS e h ke kh (ue y) (uh y)) σ')→K σ')→Ok (step x) (Fl.elim Qn Q)→M.go ⟨c.P,c.H0,K,M.kX c s,c.R⟩ b [] (ovS e h ke kh (ue x) (uh x))) :
  M.go c (.loop b) s ⟨e,h⟩ :=
 M.go_while (fun x=>ovS e h ke kh (ue x) (uh x)) ns hF h0 fun x Qn K h1 h2 _=>round x Qn K h1 h2
theorem a0r.for1 {α σ ρ:Type} [Inhabited α] {b:MC} {body:Int→α→σ→Option (Fl σ ρ)} {xs:List α} {s0:σ} {Q:Fl σ ρ→Prop} (isl:Nat) (ke kh:List Nat) (ue:σ→List (Nat×V)) (uh:σ→List Up) (ns:List a5r) (hF:Ok (forL body xs 0 s0) Q)
  (h0:a0f c.H0 ns ⟨e,h⟩ fun σ'=>a0p (ovS e h ke kh ((isl,.int .i64 ((0:Nat):Int))::ue s0) (uh s0)) σ')
  (round:∀(k:Nat) (a:α) (x:σ) (Qn:σ→Prop) (K:St→Prop),(∀σ',(a0f c.H0 ns σ' fun σ'=>∃y,Qn y∧a0p (ovS e h ke kh ((isl,.int .i64 ((k+1:Nat):Int))::ue y) (uh y)) σ')→K σ')→k<xs.length→xs.getD k default=a →
   Ok (body k a x) (Fl.elim Qn fun r=>Q (.ex r))→factsSt (ovS e h ke kh ((isl,.int .i64 k)::ue x) (uh x))→M.go ⟨c.P,c.H0,K,M.kX c s,c.R⟩ b [] (ovS e h ke kh ((isl,.int .i64 k)::ue x) (uh x)))
  (stop:∀(x:σ) (K:St→Prop),Q (.nx x)→M.go ⟨c.P,c.H0,K,M.kX c s,c.R⟩ b [] (ovS e h ke kh ((isl,.int .i64 (xs.length:Int))::ue x) (uh x))):M.go c (.loop b) s ⟨e,h⟩ :=
 M.go_for (fun k x=>ovS e h ke kh ((isl,.int .i64 (k:Int))::ue x) (uh x)) ns hF h0 round fun k x K hk hq _=>by subst hk;exact stop x K hq
theorem a0r.fold1 {α σ:Type} [Inhabited α] {b:MC} {body:Int→α→σ→Option σ} {xs:List α} {s0:σ} {Q:σ→Prop} (isl:Nat) (ke kh:List Nat) (ue:σ→List (Nat×V)) (uh:σ→List Up) (ns:List a5r) (hF:Ok (foldL body xs 0 s0) Q)
  (h0:a0f c.H0 ns ⟨e,h⟩ fun σ'=>a0p (ovS e h ke kh ((isl,.int .i64 ((0:Nat):Int))::ue s0) (uh s0)) σ')
  (round:∀(k:Nat) (a:α) (x:σ) (Qn:σ→Prop) (K:St→Prop),(∀σ',(a0f c.H0 ns σ' fun σ'=>∃y,Qn y∧a0p (ovS e h ke kh ((isl,.int .i64 ((k+1:Nat):Int))::ue y) (uh y)) σ')→K σ')→k<xs.length→xs.getD k default=a →
   Ok (body k a x) Qn→factsSt (ovS e h ke kh ((isl,.int .i64 k)::ue x) (uh x))→M.go ⟨c.P,c.H0,K,M.kX c s,c.R⟩ b [] (ovS e h ke kh ((isl,.int .i64 k)::ue x) (uh x)))
  (stop:∀(x:σ) (K:St→Prop),Q x→M.go ⟨c.P,c.H0,K,M.kX c s,c.R⟩ b [] (ovS e h ke kh ((isl,.int .i64 (xs.length:Int))::ue x) (uh x))):M.go c (.loop b) s ⟨e,h⟩ :=
 M.go_fold (fun k x=>ovS e h ke kh ((isl,.int .i64 (k:Int))::ue x) (uh x)) ns hF h0 round fun k x K hk hq _=>by subst hk;exact stop x K hq
end
section
variable {M:a0r} {c:Cfg} {e:List (Nat×V)} {h:Heap} {s:List Fr}
end
section
variable {M:a0r} {c:Cfg} {e:List (Nat×V)} {h:Heap} {s:List Fr}
theorem a0r.rforC {α σ ρ:Type} {q:Opd} {ps:List Nat} {a b:MC} {gf:Nat} {caps:List V} {enc:α→List V} {body:Int→α→σ→Option (Fl σ ρ)} {xs:List α} {s0:σ} {Q:Fl σ ρ→Prop} (Hc:Heap) (pins:List Nat) (kh:List Nat) (uh:σ→List Up) (ns:List a5r)
  (hF:Ok (forL body xs 0 s0) Q) (hq:q.ev e=.fn (.func gf) caps) (hit:c9h c.P gf caps Hc (xs.map enc)) (hsc:a0p ⟨[],Hc⟩ ⟨e,h⟩) (hpin:c1d pins e=true) (hxs:∀a,(enc a).length=ps.length∧V.withinL [] (enc a)=true)
  (h0:a0p ⟨[],(ovS e h [] kh [] (uh s0)).heap⟩ ⟨e,h⟩) (hdis:∀q∈Hc,find q.1 (ovS e h [] kh [] (uh s0)).heap=none)
  (round:∀(k:Nat) (v:α) (x:σ) (Qn:σ→Prop) (K:St→Prop),(∀σ',(a0f (b8k c.H0 pins) ns σ' fun σ'=>∃y,Qn y∧a0p ⟨[],(ovS e h [] kh [] (uh y)).heap⟩ σ')→K σ')→k<xs.length →
   Ok (body k v x) (Fl.elim Qn fun r=>Q (.ex r))→b36 (ovS e h [] kh [] (uh x)).heap →
   M.go ⟨c.P,b8k c.H0 pins,K,fun i σ'=>M.kX c s i ⟨e,σ'.heap⟩,fun σ'=>c.R ⟨e,σ'.heap⟩⟩ (.seq a b) [] ⟨b7g ps (enc v) e,(ovS e h [] kh [] (uh x)).heap⟩)
  (hst:a.straight=true) (stop:∀x,Q (.nx x)→M.kN c s ⟨e,(ovS e h [] kh [] (uh x)).heap⟩):M.go c (.rngF q ps a b) s ⟨e,h⟩:=by
 refine M.go_rngF Hc (xs.map enc) pins (fun _ x=>(ovS e h [] kh [] (uh x)).heap) (fun k x=>k≤xs.length∧Ok (forL body (xs.drop k) k x) Q) ns hq hit hsc hpin (fun l hl=>?_) ⟨s0,⟨w6 _,hF⟩,h0,hdis⟩ (fun k x l hk hp hf=>?_) hst fun x hx=>?_
 ·obtain ⟨a,_,rfl⟩:=wZ.1 hl
  exact hxs a
 ·rw [xK] at hk
  cases ha:xs[k]? with
  | none=>rw [ha] at hk;cases hk
  | some a =>
   rw [ha] at hk;cases hk
   have hlt:k<xs.length:=(zG.1 ha).1
   refine round k a x (fun y=>Ok (forL body (xs.drop (k+1)) (k+1:Nat) y) Q) _ (fun σ' h=>Lk.mk (a1w (fun σ'' ⟨y,h1,h2⟩=>⟨y,⟨hlt,h1⟩,h2⟩) h)) hlt ?_ hf
   obtain ⟨_,hx⟩:=hp
   have e1:xs.drop k=a::xs.drop (k+1):=by
    rw [List.drop_eq_getElem_cons hlt]
    have:=(zG.1 ha).2
    rw [this]
   rw [e1] at hx
   simp only [forL,a9l] at hx
   obtain ⟨o,ho,hx⟩:=hx
   refine ⟨o,ho,?_⟩
   cases o with
   | nx y=>exact hx
   | ex r=>simpa only [Fl.elim,b2d] using hx
 ·obtain ⟨_,hx⟩:=hx
  rw [wE,List.drop_length] at hx
  simp only [forL,b2d] at hx
  exact stop x hx
end
theorem d6h {α:Type} {f:α→V×V} {l:List α} {p:Prop} {q:Nat→V×V→Prop}:((l.map f=[]→p)∧∀(i:Nat) (e:V×V),(l.map f)[i]?=some e→q i e)=((l=[]→p)∧∀(i:Nat) (a:α),l[i]?=some a→q i (f a)):=by
 refine propext ⟨fun ⟨h1,h2⟩=>⟨fun h=>h1 (by simp [h]),fun i a ha=>h2 i (f a) (by rw [xK,ha];rfl)⟩,fun ⟨h1,h2⟩=>⟨fun h=>h1 (by simpa using h),fun i e he=>?_⟩⟩
 rw [xK] at he
 cases ha:l[i]? with
 | none=>rw [ha] at he;cases he
 | some a=>rw [ha] at he;cases he;exact h2 i a ha
theorem c82 {α:Type} {f:α→V×V} {l:List α} {i:Nat}:(l.map f).eraseIdx i=(l.eraseIdx i).map f:=by
 induction l generalizing i with
 | nil=>rfl
 | cons x r ih=>cases i with
  | zero=>rfl
  | succ i=>simp [ih]
theorem a4q {n:Int} (h:(V.int .i64 n).fact):-9223372036854775808≤n∧n≤9223372036854775807:=h
theorem fork {a b a' b' p q:Prop} (h:(p→a')∧(q→b')) (h1:p→a'→a) (h2:q→b'→b):(p→a)∧(q→b):=⟨fun x=>h1 x (h.1 x),fun x=>h2 x (h.2 x)⟩
theorem a1j {a b a' b' p q:Prop} (h:(q→b')∧(p→a')) (h1:p→a'→a) (h2:q→b'→b):(p→a)∧(q→b):=⟨fun x=>h1 x (h.2 x),fun x=>h2 x (h.1 x)⟩
def ltb (n m:Nat):Bool:=decide (n<m)
theorem e6i {i:Int} {n:Nat} (h:inb i n=true):ltb i.toNat n=true:=wK (a1y h)
theorem c5q {i:Int} {n:Nat}:(i.toNat<n)=(ltb i.toNat n=true):=propext ⟨fun h=>wK h,fun h=>of_decide_eq_true h⟩
theorem a9i {a b p q:Prop} (h1:p→a) (h2:q→b):(p→a)∧(q→b):=⟨h1,h2⟩
theorem appG {r:Bool} {P:V→Prop} {l:List V} {a a':Prop} (h:r=true∧a') (h1:r=true→a'→a) (hl:∀y,y∈l→P y:=by first|(simp [V.cells];done)|(intro y hy;rcases wO.1 hy with rfl|hy<;>first|rfl|(obtain ⟨z,_,rfl⟩:=wZ.1 hy;rfl))):(r=true∧∀y,y∈l→P y)∧a:=⟨⟨h.1,hl⟩,h1 h.1 h.2⟩
theorem d4i {r:Bool} {P:V→Prop} {l:List V} {a a':Prop} (h:r=true∧a') (h1:r=true→a'→a) (hl:∀y,y∈l→P y:=by first|(simp [V.cells];done)|(intro y hy;rcases wO.1 hy with rfl|hy<;>first|rfl|(obtain ⟨z,_,rfl⟩:=wZ.1 hy;rfl))):(∀y,y∈l→P y)∧a:=⟨hl,h1 h.1 h.2⟩
theorem a1i {n m:Int} {b:Nat} {a a':Prop} (h:a98 n m b=true∧a') (h1:a98 n m b=true→a'→a):(0≤n∧n≤m∧m*(b:Int)≤140737488355328)∧a:=⟨b4j.1 h.1,h1 h.1 h.2⟩
theorem a6y {a a' p:Prop} (h:p∧a') (h1:p→a'→a):p∧a:=⟨h.1,h1 h.1 h.2⟩
theorem b87 {α β γ:Type} {f:α→γ} {g:β→γ} {a:α}:Sum.elim f g (.inl a)=f a:=rfl
theorem e0w {α β γ:Type} {f:α→γ} {g:β→γ} {b:β}:Sum.elim f g (.inr b)=g b:=rfl
theorem b7q {α:Type} [Inhabited α] {f:α→V} {l:List α} {i:Nat} (h:i<l.length):(l.map f)[i]?=some (f (l.getD i default)):=by simp [h]
theorem f9n {α:Type} [Inhabited α] {f:α→V} {l:List α} {i:Nat} {cs:List V} (h:i<l.length) (e:f (l.getD i default)=.agg cs):(l.map f)[i]?=some (V.agg cs):=(b7q h).trans (congrArg some e)
theorem f9m {α:Type} {f:α→V} {l:List α} {i:Nat} {cs:List V} (h:i<l.length):((l.map f).set i (V.agg cs))[i]?=some (V.agg cs):=by rw [List.getElem?_set_self (by rw [wE];exact h)]
theorem f2x {a b:Nat} {xs:List V}:(V.sl xs).sw a b=.sl xs:=by simp [V.sw]
theorem e3m {a b:Nat} {k:IntKind} {n:Int}:(V.int k n).sw a b=.int k n:=by simp [V.sw]
theorem d54 {a b:Nat} {x:Bool}:(V.bool x).sw a b=.bool x:=by simp [V.sw]
theorem e3k {a b:Nat} {x:List UInt8}:(V.str x).sw a b=.str x:=by simp [V.sw]
theorem d52 {a b:Nat} {kd:KD} {es:List (V×V)}:(V.smap kd es).sw a b=.smap kd es:=by simp [V.sw]
theorem d53 {a b:Nat} {c:UInt8}:(a0a c).sw a b=a0a c:=by simp [a0a,V.sw]
theorem e3n {a b k:Nat} {xs:List V} {t:Option TypeId}:(a03.arr k xs t).sw a b=.arr k xs t:=rfl
theorem e3l {a b:Nat} {kd:KD} {es:List (V×V)}:(a03.map kd es).sw a b=.map kd es:=rfl
theorem e8o {a:UInt8} {t:List UInt8}:([V.int .u8 (a.toNat:Int)]=t.map a0a)=(t=[a]):=propext
 ⟨fun h=>(bytes_inj (a:=[a]) h).symm,fun h=>by subst h;rfl⟩
theorem e0e {a b:UInt8} {t:List UInt8}:([V.int .u8 92,V.int .u8 120,V.int .u8 (a.toNat:Int),V.int .u8 (b.toNat:Int)]=t.map a0a)=(t=[92,120,a,b]):=propext
 ⟨fun h=>(bytes_inj (a:=[92,120,a,b]) (b:=t) h).symm,fun h=>by subst h;rfl⟩
theorem e8n {a b:UInt8} {t:List UInt8}:([V.int .u8 (a.toNat:Int),V.int .u8 (b.toNat:Int)]=t.map a0a)=(t=[a,b]):=propext
 ⟨fun h=>(bytes_inj (a:=[a,b]) h).symm,fun h=>by subst h;rfl⟩
section
variable {M:a0r} {c:Cfg} {d:Option Nat} {r:List MOp} {s:List Fr} {e e0:List (Nat×V)} {h h0:Heap} {anc:List (List Nat)} {u t m:List Nat} {log:List Ent} {x:List UInt8} {n:Nat}
theorem a0r.b2s_e:(∃t:List UInt8,t=x∧t.length=n∧a0g (M.lok c d r s e h) (.str t))=(x.length=n∧a0g (M.aft c d r s e h) (.str x)):=by
 simp [M.lok_comp]
theorem a0r.b2s_eD:(∃t':List UInt8,t'=x∧t'.length=n∧a0g (M.lokD c anc e0 h0 d u t m r log s e h) (.str t'))=(x.length=n∧a0g (M.aftD c anc e0 h0 d u t m r log s e h) (.str x)):=by
 simp [M.lokD_comp]
end
def slV {α:Type} (f:α→V) (xs:List α):V:=.sl (xs.map f)
def kvV {α β:Type} (f:α→V) (g:β→V) (p:α×β):V×V:=(f p.1,g p.2)
def mpV {α β:Type} (kd:KD) (f:α→V) (g:β→V) (m:List (α×β)):V:=.smap kd (m.map (kvV f g))
theorem d00 (n:Int):((u8 n).toNat:Int)=n % 256:=by
 unfold u8
 have h:(n % 256).toNat<256:=by omega
 rw [UInt8.toNat_ofNat_of_lt' h];omega
theorem wrap_u8 (n:Int):IntKind.wrap .u8 n=((u8 n).toNat:Int):=by
 rw [d00];simp [IntKind.wrap,IntKind.signed,IntKind.bits]
def c4t (a b:Int):Bool:=decide (0≤a)&&decide (0<b)
theorem b48 {a b:Int}:c4t a b=true↔0≤a∧0<b:=by simp [c4t]
def nzb (b:Int):Bool:=!decide (b=0)
theorem d6g {b:Int}:(b≠0)=(nzb b=true):=propext (by simp [nzb])
theorem d0t {b:Int}:(¬b=0)=(nzb b=true):=propext (by simp [nzb])
def f3b (b:Int) (n:Nat):Bool:=decide (0≤b)&&decide (b≤n)
def d41 (k:IntKind) (n:Int):Bool:=decide (k.min≤n)&&decide (n≤k.max)
def b5x {α β:Type} [DecidableEq α] (k:α):List (α×β)→Option β
 | []=>none
 | (a,b)::r=>if k=a then some b else b5x k r
def c5l {α β:Type} [DecidableEq α] (k:α) (v:β):List (α×β)→List (α×β)
 | []=>[(k,v)]
 | (a,b)::r=>if k=a then (a,v)::r else (a,b)::c5l k v r
def e2j {α β:Type} [DecidableEq α] (k:α):List (α×β)→List (α×β)
 | []=>[]
 | (a,b)::r=>if k=a then r else (a,b)::e2j k r
section
variable {α β:Type} [DecidableEq α] {f:α→V} {g:β→V}
theorem b03 (hk:∀a b,keq (f a) (f b)=decide (a=b)) (k:α):∀l:List (α×β),b5w (f k) (l.map (kvV f g))=(b5x k l).map g
 | []=>rfl
 | (a,b)::r=>by
  by_cases e:k=a
  ·simp [b5w,b5x,kvV,hk,e]
  ·simp [b5w,b5x,kvV,hk,e,b03 hk k r]
theorem a9z (hk:∀a b,keq (f a) (f b)=decide (a=b)) (k:α) (v:β):∀l:List (α×β),(c5l k v l).map (kvV f g)=b2v (f k) (g v) (l.map (kvV f g))
 | []=>rfl
 | (a,b)::r=>by
  by_cases e:k=a
  ·simp [b2v,c5l,kvV,hk,e]
  ·simp [b2v,c5l,kvV,hk,e,a9z hk k v r]
theorem b4t (hk:∀a b,keq (f a) (f b)=decide (a=b)) (k:α):∀l:List (α×β),(e2j k l).map (kvV f g)=b6l (f k) (l.map (kvV f g))
 | []=>rfl
 | (a,b)::r=>by
  by_cases e:k=a
  ·simp [b6l,e2j,kvV,hk,e]
  ·simp [b6l,e2j,kvV,hk,e,b4t hk k r]
theorem e4y {k:Int} {l:List (Int×β)}:b5w (.int .i64 k) (l.map (kvV (V.int .i64) g))=(b5x k l).map g:=b03 (fun _ _=>rfl) k l
theorem e4x {k:Str} {l:List (Str×β)}:b5w (.str k) (l.map (kvV V.str g))=(b5x k l).map g:=b03 (fun _ _=>rfl) k l
theorem e4v {k:Int} {v:β} {l:List (Int×β)}:(c5l k v l).map (kvV (V.int .i64) g)=b2v (.int .i64 k) (g v) (l.map (kvV (V.int .i64) g)):=a9z (fun _ _=>rfl) k v l
theorem e4u {k:Str} {v:β} {l:List (Str×β)}:(c5l k v l).map (kvV V.str g)=b2v (.str k) (g v) (l.map (kvV V.str g)):=a9z (fun _ _=>rfl) k v l
theorem e5b {k:Int} {l:List (Int×β)}:(e2j k l).map (kvV (V.int .i64) g)=b6l (.int .i64 k) (l.map (kvV (V.int .i64) g)):=b4t (fun _ _=>rfl) k l
theorem e5a {k:Str} {l:List (Str×β)}:(e2j k l).map (kvV V.str g)=b6l (.str k) (l.map (kvV V.str g)):=b4t (fun _ _=>rfl) k l
end
theorem g1z {d:Bool} {o:Option Bool}:a5z false (.bool d) (o.map V.bool)=.bool (o.getD d):=by cases o<;>rfl
theorem g1y {d:Int} {o:Option Int}:a5z false (.int .i64 d) (o.map (V.int .i64))=.int .i64 (o.getD d):=by cases o<;>rfl
theorem g1w {d:Str} {o:Option Str}:a5z false (.str d) (o.map V.str)=.str (o.getD d):=by cases o<;>rfl
theorem g1x {α:Type} {f:α→V} {o:Option (List α)}:a5z false (.sl []) (o.map (slV f))=.sl ((o.getD []).map f):=by cases o<;>rfl
theorem e6m {d:Bool} {o:Option Bool}:a5z true (.bool d) (o.map V.bool)=.tup [.bool (o.getD d),.bool o.isSome]:=by cases o<;>rfl
theorem e6l {d:Int} {o:Option Int}:a5z true (.int .i64 d) (o.map (V.int .i64))=.tup [.int .i64 (o.getD d),.bool o.isSome]:=by cases o<;>rfl
theorem e6j {d:Str} {o:Option Str}:a5z true (.str d) (o.map V.str)=.tup [.str (o.getD d),.bool o.isSome]:=by cases o<;>rfl
theorem e6k {α:Type} {f:α→V} {o:Option (List α)}:a5z true (.sl []) (o.map (slV f))=.tup [.sl ((o.getD []).map f),.bool o.isSome]:=by cases o<;>rfl
theorem d9f {i:Int} {n:Nat}:(0≤i∧i<(n:Int))=(inb i n=true):=propext a18.symm
theorem d9e {a b:Int} {n:Nat}:(0≤a∧a≤b∧b≤(n:Int))=(inc a b n=true):=propext a7y.symm
theorem d0k {n b:Nat}:(n*b≤140737488355328)=(room n b=true):=propext b41.symm
theorem c6c {n m:Int} {b:Nat}:(0≤n∧n≤m∧m*b≤140737488355328)=(a98 n m b=true):=propext b4j.symm
theorem d2p {a b:Int}:(0≤a∧0<b)=(c4t a b=true):=propext b48.symm
theorem f4v {n:Nat} {b:Bool}:List.replicate n (V.bool b)=(List.replicate n b).map V.bool:=List.map_replicate.symm
theorem f4t {n:Nat} {b:Int}:List.replicate n (V.int .u64 b)=(List.replicate n b).map (V.int .u64):=List.map_replicate.symm
theorem e4h {n:Nat}:List.replicate n (V.sl [])=(List.replicate n ([]:List Int)).map (slV (V.int .i64)):=by rw [List.map_replicate];rfl
theorem c3m {a:Int}:(0≤a∧a≤64)=(f3b a 64=true):=propext (by simp [f3b])
theorem f4u {n:Nat} {b:Int}:List.replicate n (V.int .i64 b)=(List.replicate n b).map (V.int .i64):=List.map_replicate.symm
open Classical in
def amb {α:Type} (c:Bool) (a b:Option α):Option α:=if c=true→a=b then b else none
theorem e9e {α:Type} {c:Bool} {a b:Option α} (h:c=true→a=b):amb c a b=b:=by unfold amb;exact if_pos h
theorem d3a {α:Type} {c:Bool} {a b:Option α} {Q:α→Prop} {p A B:Prop} (h:Ok (amb c a b) Q) (hp:p→c=true) (h1:c=true→Ok a Q→A) (h2:Ok b Q→B):(p→A)∧B:=by
 unfold amb at h
 split at h
 ·rename_i hc
  exact ⟨fun x=>h1 (hp x) (by rw [hc (hp x)];exact h),h2 h⟩
 ·rw [c1l] at h;exact h.elim
theorem e00 {α:Type} [Inhabited α] {f:α→V} {xs:List α} {k:Nat} {a:α} (ha:xs.getD k default=a) (hk:k<xs.length):(xs.map f).drop (k*1)=f a::(xs.map f).drop (k+1):=by
 rw [Nat.mul_one,←List.map_drop,b5c hk,ha,wP,List.map_drop]
theorem b4k (k:IntKind) {n:Int}:rng k n=(d41 k n=true):=propext (by rw [←a13];simp [d41,inR])
theorem d0o {n:Int}:rng .i32 n=(d41 .i32 n=true):=b4k .i32
theorem d0m {n:Int}:rng .u32 n=(d41 .u32 n=true):=b4k .u32
theorem d0l {n:Int}:rng .u64 n=(d41 .u64 n=true):=b4k .u64
theorem d0p {n:Int}:rng .i16 n=(d41 .i16 n=true):=b4k .i16
theorem d0n {n:Int}:rng .u16 n=(d41 .u16 n=true):=b4k .u16
attribute [irreducible] a0c inb inc room a98 c4t f3b d41 ltb
@[reducible,go_sem] def mo (i:y7) (d:Nat):MOp:=⟨i,some d,none⟩
theorem kI {k:Nat} (h:(k:Int)+1≤9223372036854775807):a0c ((k:Int)+1)=true:=a8p.2 ⟨by omega,by omega⟩
structure Cv (p q:Prop):Prop where
 e:p=q
theorem Cv.r {p:Prop}:Cv p p:=⟨rfl⟩
theorem tB {p q:Prop} (h:q) (e:Cv p q:=by (simp (maxSteps:=400000) only [go_sem,Nat.reduceBEq,Nat.reduceAdd,Nat.reduceLeDiff,Nat.reduceSub,Nat.reduceMul,Int.reduceToNat,Int.reduceLT,Int.reduceLE];exact Cv.r)):p:=e.e▸h
theorem tH {p q:Prop} (h:p) (e:Cv p q:=by (simp (maxSteps:=400000) only [go_sem,Nat.reduceBEq,Nat.reduceAdd,Nat.reduceLeDiff,Nat.reduceSub,Nat.reduceMul,Int.reduceToNat,Int.reduceLT,Int.reduceLE];exact Cv.r)):q:=e.e▸h
theorem tU0 {p:Prop} (h:p:=by (refine ⟨?_,?_,?_⟩<;>(try simp (maxSteps:=400000) only [go_sem,Nat.reduceBEq,Nat.reduceAdd,Nat.reduceLeDiff,Nat.reduceSub,Nat.reduceMul,Int.reduceToNat,Int.reduceLT,Int.reduceLE,St.good,c4a,distinct,a0p,e1o,c3k])<;>(repeat' (first|exact trivial|rfl|apply And.intro|(simp;done))))):p:=h
theorem tU {p:Prop} (h:p:=by (refine ⟨?_,?_,?_⟩<;>(try simp (maxSteps:=400000) only [go_sem,Nat.reduceBEq,Nat.reduceAdd,Nat.reduceLeDiff,Nat.reduceSub,Nat.reduceMul,Int.reduceToNat,Int.reduceLT,Int.reduceLE,St.good,c4a,distinct,a0p,e1o,c3k, *])<;>(repeat' (first|exact trivial|rfl|apply And.intro|(simp [*];done)|(exfalso;simp only [xO,Bool.not_eq_false',xG,zK] at *;contradiction))))):p:=h
theorem tK {p q a b c d e:Prop} (h1:a) (h2:b) (h3:c) (h4:d) (h5:e) (h:q) (e:a→b→c→d→e→Cv p q:=by (intro h1 h2 h3 h4 h5;simp (maxSteps:=400000) only [go_sem,Nat.reduceBEq,Nat.reduceAdd,Nat.reduceLeDiff,Nat.reduceSub,Nat.reduceMul,Int.reduceToNat,Int.reduceLT,Int.reduceLE,h1,h2,h3,h4,h5];exact Cv.r)):p:=(e h1 h2 h3 h4 h5).e▸h
theorem kB {k n:Nat} (h:k<n):inb (k:Int) n=true:=a18.2 ⟨Int.natCast_nonneg k,Int.ofNat_lt.2 h⟩
theorem b56 {α:Type} [Inhabited α] {f:α→V} {l:List α} {i k:Nat} {a:α} (h:k<l.length):((l.map f).set i (f a))[k]?=some (f ((l.set i a).getD k default)):=by
 rw [←List.map_set,xK,zE,zJ (by simpa using h)]
 rfl
theorem a9e {k n:Nat} (h:inb (k:Int) n=true):k<n:=Int.ofNat_lt.1 (a18.1 h).2
theorem kD {k n:Nat} (h:k<n):decide ((k:Int)<(n:Int))=true:=wK (Int.ofNat_lt.2 h)
theorem tZ {p:Prop} (x:p:=by (first|exact hQ _ h|exact trivial|exact False.elim h|(have hq:=hQ _ h;replace hq:=tH hq;exact hq)|(have hq:=hQ _ h;rw [zP (by simp only [xU,wE];omega)];exact hq))):p:=x
theorem d1z {i m:Int} {n:Nat} {a a':Prop} (h:inb i n=true∧a') (h1:inb i n=true→a'→a) (e:(n:Int)=m:=by rfl):(0≤i∧i<m)∧a:=⟨e▸a18.1 h.1,h1 h.1 h.2⟩
theorem d49 {a b m:Int} {n:Nat} {p p':Prop} (h:inc a b n=true∧p') (h1:inc a b n=true→p'→p) (e:(n:Int)=m:=by rfl):(0≤a∧a≤b∧b≤m)∧p:=⟨e▸a7y.1 h.1,h1 h.1 h.2⟩
theorem c7k {c:UInt8}:a0c (c.toNat:Int)=true:=by rw [a8p];have:=c.toNat_lt;omega
theorem d2b {n:Nat} {c:UInt8}:(a0a c).has n=false:=by simp [a0a,V.has]
def fnV:Option Nat→V
 | none=>.nilf
 | some f=>.fn (.func f) []
theorem d2j:fnV none=.nilf:=rfl
theorem d2h {f:Nat}:fnV (some f)=.fn (.func f) []:=rfl
theorem d4c {o:Option Nat}:(fnV o).sc=true:=by cases o<;>rfl
theorem c7t {o:Option Nat}:(fnV o).one=true:=by cases o<;>rfl
theorem c7v {n:Nat} {o:Option Nat}:(fnV o).has n=false:=by cases o<;>simp [fnV,V.has,V.hasL]
theorem b99 {o:Option Nat}:(fnV o).cells=[fnV o]:=by cases o<;>rfl
theorem c2p {o:Option Nat}:(fnV o).nany=true:=by cases o<;>rfl
theorem c7u {o:Option Nat}:(fnV o).nav=true:=by cases o<;>rfl
theorem d4b {a b:Nat} {o:Option Nat}:(fnV o).sw a b=fnV o:=by cases o<;>simp [fnV,V.sw,V.swL]
theorem b98 {o:Option Nat}:(fnV o).unnil=fnV o:=by cases o<;>simp [fnV,V.unnil]
theorem c2o {o:Option Nat}:(fnV o).oids=[]:=by cases o<;>rfl
theorem c7s {ng:Bool} {o:Option Nat} {K:Eff→Prop}:e2h ng (fnV o) K=K (evl (.bool (bif ng then o.isSome else !o.isSome))):=by cases o<;>cases ng<;>rfl
theorem d9m {n f:Nat}:(V.fn (.func f) []).has n=false:=by simp [V.has,V.hasL]
theorem e0i {d:Nat} {o:Option Nat} {K:Eff→Prop}:d5w d (fnV o) K=K ⟨.ptr d 0,[],[(d,.cells [fnV o])]⟩:=by cases o<;>rfl
attribute [go_sem] d2j d2h d4c c7t c7v b99 c2p c7u d4b b98 c2o c7s d9m e0i
theorem d9l {n:Nat} {b:Bool}:(V.ifc b).has n=false:=by simp [V.has]
theorem d9p {n b o:Nat}:(V.adr b o).has n=false:=by simp [V.has]
theorem e6y {n i b:Nat}:(V.at_ i b).has n=Nat.beq n i:=by simp [V.has]
attribute [go_sem] d9l d9p e6y
attribute [go_sem] d6g d0t
attribute [irreducible] nzb
attribute [go_sem] c7k d2b List.getElem?_cons_zero zN
inductive IsMap {α:Type} (f:α→V):List V→List α→Prop
 | nil:IsMap f [] []
 | cons {a:α} {L:List V} {l:List α} (h:IsMap f L l):IsMap f (f a::L) (a::l)
theorem IsMap.app {α:Type} {f:α→V} {l:List α} {L:List V} {l':List α} (h:IsMap f L l'):IsMap f (l.map f++L) (l++l'):=by
 induction l with
 | nil=>exact h
 | cons a l ih=>exact .cons ih
theorem IsMap.eq {α:Type} {f:α→V} {L:List V} {l:List α} (h:IsMap f L l):L=l.map f:=by
 induction h with
 | nil=>rfl
 | cons h ih=>rw [ih];rfl
theorem tE4 {α:Type} [Inhabited α] {L:List V} {l:List α} (f:α→V) {i:Nat} {p:V→Prop} (b:p (f (l.getD i default))) (e:IsMap f L l:=by repeat (first|exact IsMap.nil|apply IsMap.cons)) (h:i<l.length:=by first|assumption|exact a1y (by assumption)):∃x,L[i]?=some x∧p x:=e.eq▸⟨_,b7q h,b⟩
theorem b3a {l:List UInt8} {i:Nat} {c:UInt8} {p:List UInt8→Prop}:(∃t:List UInt8,(l.map a0a).set i (V.int .u8 (c.toNat:Int))=t.map a0a∧p t)=p (l.set i c):=by
 have e:(l.map a0a).set i (V.int .u8 (c.toNat:Int))=(l.set i c).map a0a:=by rw [List.map_set];rfl
 rw [e,b7t]
theorem a0r.b2s_set {M:a0r} {c:Cfg} {d:Option Nat} {r:List MOp} {s:List Fr} {e:List (Nat×V)} {h:Heap} {l:List UInt8} {i n:Nat} {b:UInt8}:(∃t:List UInt8,(l.map a0a).set i (V.int .u8 (b.toNat:Int))=t.map a0a∧t.length=n∧a0g (M.lok c d r s e h) (.str t))=((l.set i b).length=n∧a0g (M.aft c d r s e h) (.str (l.set i b))):=by rw [b3a,M.lok_comp]
theorem a0r.b2s_setD {M:a0r} {c:Cfg} {anc:List (List Nat)} {e0 e:List (Nat×V)} {h0 h:Heap} {d:Option Nat} {u t m:List Nat} {r:List MOp} {log:List Ent} {s:List Fr} {l:List UInt8} {i n:Nat} {b:UInt8}:(∃t':List UInt8,(l.map a0a).set i (V.int .u8 (b.toNat:Int))=t'.map a0a∧t'.length=n∧a0g (M.lokD c anc e0 h0 d u t m r log s e h) (.str t'))=((l.set i b).length=n∧a0g (M.aftD c anc e0 h0 d u t m r log s e h) (.str (l.set i b))):=by rw [b3a,M.lokD_comp]
theorem c9o {n m:Int} {a a':Prop} (h:c4t n m=true∧a') (h1:c4t n m=true→a'→a):0≤n∧a:=⟨(b48.1 h.1).1,h1 h.1 h.2⟩
theorem tA {p q:Prop} (b:q) (a:p:=by (first|exact e0a rfl|assumption|exact e6i (by assumption)|exact a9e (by assumption)|omega)):p∧q:=⟨a,b⟩
theorem tE {α:Type} [Inhabited α] {f:α→V} {l:List α} {i:Nat} {p:V→Prop} (b:p (f (l.getD i default))) (h:i<l.length:=by exact a1y (by assumption)):∃x,(l.map f)[i]?=some x∧p x:=⟨_,b7q h,b⟩
theorem tY {a b:Prop} (h:a) (e:Cv a b:=by (first|(simp (maxSteps:=400000) only [go_sem,Nat.reduceBEq,Nat.reduceAdd,Nat.reduceLeDiff,Nat.reduceSub,Nat.reduceMul,Int.reduceToNat,Int.reduceLT,Int.reduceLE];exact Cv.r)|exact Cv.r)):b:=e.e▸h
theorem a0r.sC (M:a0r) {P:Program} {n:Nat} {args cap:List V} {ids news:List Nat} {ob:Nat→Option a03} {H H1:Heap} {r:V} {c:Cfg} {d:Option Nat} {o:List MOp} {s:List Fr} {e:List (Nat×V)} {h:Heap} (hc:l9 P n (args++cap) H (fun r' H'=>r'=r∧H'=H1)) (x:M.aft c d o s e h ⟨r,ids,H1⟩)
  (hs:b8c ids ob=some H:=by rfl) (hi:b1t H1 ids news=true:=by rfl):b3n P (.fn (.func n) cap) args ids news ob (M.lok c d o s e h):=c1t hc hs hi (by rw [M.lok_eq];exact x)
theorem a0r.sD (M:a0r) {P:Program} {n:Nat} {args cap:List V} {ids news:List Nat} {ob:Nat→Option a03} {H H1:Heap} {r:V} {c:Cfg} {anc:List (List Nat)} {e0:List (Nat×V)} {h0:Heap} {d:Option Nat} {u t m:List Nat} {o:List MOp} {log:List Ent} {s:List Fr} {e:List (Nat×V)} {h:Heap} (hc:l9 P n (args++cap) H (fun r' H'=>r'=r∧H'=H1)) (x:M.aftD c anc e0 h0 d u t m o log s e h ⟨r,ids,H1⟩)
  (hs:b8c ids ob=some H:=by rfl) (hi:b1t H1 ids news=true:=by rfl):b4g P (.fn (.func n) cap) args ids news ob (M.lokD c anc e0 h0 d u t m o log s e h):=c63 hc hs hi (by rw [M.lokD_eq];exact x)
def Cn {α:Type} (P:Program) (n:Nat) (args:List V) (H:Heap) (F:Option α) (RV:α→V) (HV:α→Heap):Prop:=∀(Q:α→Prop) (Q':V→Heap→Prop),Ok F Q→(∀z,Q z→Q' (RV z) (HV z))→l9 P n args H Q'
theorem Cn.w {α:Type} {F:Option α} {P:Program} {n:Nat} {args:List V} {H:Heap} {RV:α→V} {HV:α→Heap} (h:Cn P n args H F RV HV) {y:α} (hy:F=some y):l9 P n args H (fun r H'=>r=RV y∧H'=HV y) :=
 h (·=y) _ ⟨_,hy,rfl⟩ fun z e=>e▸⟨rfl,rfl⟩
@[reducible,go_sem] def oV (a d:Nat):MOp:=⟨.mv (.t a),some d,none⟩
@[reducible,go_sem] def oL (a d:Nat):MOp:=⟨.ld none (.t a),some d,none⟩
@[reducible,go_sem] def oF (o a d:Nat):MOp:=⟨.fad o (.t a),some d,none⟩
@[reducible,go_sem] def cI (n:Int):Opd:=.c (.int .i64 n)
@[reducible,go_sem] def oC (n:Int) (d:Nat):MOp:=⟨.mv (.c (.int .i64 n)),some d,none⟩
@[reducible,go_sem] def gF (s d:Nat) (i:y7):MOp:=⟨i,some d,some (s,false)⟩
@[reducible,go_sem] def gT (s d:Nat) (i:y7):MOp:=⟨i,some d,some (s,true)⟩
@[reducible,go_sem] def lN (n a d:Nat):MOp:=⟨.ld (some n) (.t a),some d,none⟩
@[reducible,go_sem] def bx (a d:Nat):MOp:=⟨.box (.t a),some d,none⟩
@[reducible,go_sem] def mF (d:Nat):MOp:=⟨.mv (.c (.bool false)),some d,none⟩
@[reducible,go_sem] def mT (d:Nat):MOp:=⟨.mv (.c (.bool true)),some d,none⟩
@[reducible,go_sem] def lE (a d:Nat):MOp:=⟨.len false (.t a),some d,none⟩
@[reducible,go_sem] def iA (k a b d:Nat):MOp:=⟨.iad k (.t a) (.t b),some d,none⟩
@[reducible,go_sem] def aI (a:Nat) (n:Int) (d:Nat):MOp:=⟨.bin true .add (.t a) (.c (.int .i64 n)),some d,none⟩
@[reducible,go_sem] def sI (a:Nat) (n:Int) (d:Nat):MOp:=⟨.bin true .sub (.t a) (.c (.int .i64 n)),some d,none⟩
@[reducible,go_sem] def pO (a b d:Nat):MOp:=⟨.pick (.t a) (.c (.bool true)) (.t b),some d,none⟩
@[reducible,go_sem] def pA (a b d:Nat):MOp:=⟨.pick (.t a) (.t b) (.c (.bool false)),some d,none⟩
@[reducible,go_sem] def bT (o:BinOp) (a b d:Nat):MOp:=⟨.bin false o (.t a) (.t b),some d,none⟩
@[reducible,go_sem] def bC (o:BinOp) (a:Nat) (n:Int) (d:Nat):MOp:=⟨.bin false o (.t a) (.c (.int .i64 n)),some d,none⟩
@[reducible,go_sem] def xT (i a d:Nat):MOp:=⟨.ext i (.t a),some d,none⟩
@[reducible,go_sem] def nT (a d:Nat):MOp:=⟨.not (.t a),some d,none⟩
@[reducible,go_sem] def k1 (f a d:Nat):MOp:=⟨.call (.f f) [.t a] [] [],some d,none⟩
@[reducible,go_sem] def k2 (f a b d:Nat):MOp:=⟨.call (.f f) [.t a,.t b] [] [],some d,none⟩
@[reducible,go_sem] def k3 (f a b c d:Nat):MOp:=⟨.call (.f f) [.t a,.t b,.t c] [] [],some d,none⟩
@[reducible,go_sem] def ap (k n a b d:Nat):MOp:=⟨.app k n (.t a) (.t b),some d,none⟩
@[reducible,go_sem] def tL (s d a:Nat):MOp:=⟨.ld none (.t a),some d,some (s,true)⟩
@[reducible,go_sem] def ta_ (s d o a:Nat):MOp:=⟨.fad o (.t a),some d,some (s,true)⟩
@[reducible,go_sem] def tV (s d a:Nat):MOp:=⟨.mv (.t a),some d,some (s,true)⟩
@[reducible,go_sem] def fL (s d a:Nat):MOp:=⟨.ld none (.t a),some d,some (s,false)⟩
@[reducible,go_sem] def fa_ (s d o a:Nat):MOp:=⟨.fad o (.t a),some d,some (s,false)⟩
@[reducible,go_sem] def fV (s d a:Nat):MOp:=⟨.mv (.t a),some d,some (s,false)⟩
@[reducible,go_sem] def sR (l:List MOp) (b:MC):MC:=.seq (.reg l) b
theorem a0s {P:Program} {f:Nat} {fn:Func} {args:List V} {H:Heap} {Q:V→Heap→Prop} (mc:MC) (ns:List a5r) (rids:List Nat) (rs:List RS) (hf:P.funcs[f]?=some fn)
  (h:∀M:a0r,M.go ⟨P,H,a2c H ns rids rs Q,fun _ _=>False,a2c H ns rids rs Q⟩ mc [] ⟨a4s 0 args,H⟩) (hb:fn.body=some (fn.body.getD .skip):=by rfl) (hc:callable P f=true:=by kernel_rfl)
  (hok:mc.ok P fn.ntmps (fn.body.getD .skip)=true:=by kernel_rfl) (hnh:mc.nh=true:=by kernel_rfl) (hrs:a7b P rs fn.results.toList=true:=by kernel_rfl) (hn:Nat.ble args.length fn.ntmps=true:=by rfl) (hg:St.good ⟨a4s 0 args,H⟩=true:=by rfl):l9 P f args H Q :=
 c1i ns rids rs hf hb hc hnh hok hrs hn hg fun M _=>h M
theorem c5r {α:Type} {f:α→V} {a:V} {L:List α}:List.take (1+L.length) (a::L.map f)=a::L.map f:=zP (by rw [xU,wE];omega)
theorem e8j {α:Type} {l:List α} {i:Nat}:(l.length - i≤(List.take (l.length - i) (List.drop i l)).length)=True:=eq_true (by rw [xS,List.length_drop];omega)
theorem c47 {n:Nat}:(1+n≤n+1)=True:=eq_true (by omega)
attribute [go_sem] c5r e8j c47 Nat.sub_zero
end
end Go.Ab
namespace Go.Ab
section
variable {α β σ ρ:Type} {Q:β→Prop} {P:α→Prop}
theorem Ok.bind {o:Option α} {f:α→Option β} (h:Ok o P) (k:∀y,P y→Ok (f y) Q):Ok (o.bind f) Q:=by
 obtain ⟨y,rfl,hy⟩:=h;exact k y hy
theorem Ok.jn {o:Option α} {f:α→Option β} (h:Ok o P) (k:∀y,P y→Ok (f y) Q):Ok (jn o f) Q:=Ok.bind h k
theorem Ok.grp {x:α} {f:α→Option β} (h:Ok (f x) Q):Ok (grp x f) Q:=h
theorem Ok.chk {b:Bool} {o:Option β} (hb:b=true) (h:Ok o Q):Ok (chk b o) Q:=by rw [d4p];exact ⟨hb,h⟩
theorem Ok.ret {x:β} (h:Q x):Ok (some x) Q:=⟨x,rfl,h⟩
theorem Ok.mono {o:Option β} {Q':β→Prop} (h:Ok o Q') (k:∀y,Q' y→Q y):Ok o Q:=by
 obtain ⟨y,e,hy⟩:=h;exact ⟨y,e,k y hy⟩
theorem Ok.ite {b:Bool} {x y:Option β} (h1:b=true→Ok x Q) (h2:b=false→Ok y Q):Ok (bif b then x else y) Q:=by
 rw [d4o];exact ⟨h1,h2⟩
theorem Ok.eq {o:Option β} {x:β} (h:Ok o (·=x)):o=some x:=by obtain ⟨y,e,rfl⟩:=h;exact e
theorem Ok.of {o:Option β} {x:β} (h:o=some x) (hq:Q x):Ok o Q:=⟨x,h,hq⟩
theorem Ok.val {o:Option β} {x:β} (h:Ok o Q) (e:o=some x):Q x:=by obtain ⟨y,e',h⟩:=h;rw [e] at e';cases e';exact h
theorem Ok.foldI {body:Int→α→σ→Option σ} {Q:σ→Prop} {all:List α} (I:List α→σ→Prop):∀(xs pre:List α) (k:Int) (s:σ),all=pre++xs→k=pre.length→I pre s →
  (∀(pre:List α) (x:α) (r:List α) (s:σ),all=pre++x::r→I pre s→Ok (body pre.length x s) (I (pre++[x])))→(∀s,I all s→Q s)→Ok (foldL body xs k s) Q
 | [],pre,k,s,hw,hk,h,step,fin=>by
  simp only [foldL];exact ⟨s,rfl,fin s (by rw [hw];simpa using h)⟩
 | x::r,pre,k,s,hw,hk,h,step,fin=>by
  simp only [foldL]
  refine Ok.bind (by rw [hk];exact step pre x r s hw h) fun y hy=>?_
  exact Ok.foldI I r (pre++[x]) (k+1) y (by simp [hw]) (by simp [hk]) hy step fin
theorem Ok.fold {body:Int→α→σ→Option σ} {Q:σ→Prop} (I:σ→Prop):∀(xs:List α) (k:Int) (s:σ),I s →
  (∀k x s,x∈xs→I s→Ok (body k x s) I)→(∀s,I s→Q s)→Ok (foldL body xs k s) Q
 | [],k,s,h,step,fin=>⟨s,rfl,fin s h⟩
 | x::r,k,s,h,step,fin=>by
  simp only [foldL]
  exact Ok.bind (step k x s (by simp) h) fun y hy=>Ok.fold I r (k+1) y hy (fun k x s hx=>step k x s (by simp [hx])) fin
theorem Ok.forI {body:Int→α→σ→Option (Fl σ ρ)} {Q:Fl σ ρ→Prop} {all:List α} (I:List α→σ→Prop):∀(xs pre:List α) (k:Int) (s:σ),all=pre++xs→k=pre.length→I pre s →
  (∀(pre:List α) (x:α) (r:List α) (s:σ),all=pre++x::r→I pre s→Ok (body pre.length x s) (Fl.elim (I (pre++[x])) fun r=>Q (.ex r)))→(∀s,I all s→Q (.nx s))→Ok (forL body xs k s) Q
 | [],pre,k,s,hw,hk,h,step,fin=>by
  simp only [forL];exact ⟨_,rfl,fin s (by rw [hw];simpa using h)⟩
 | x::r,pre,k,s,hw,hk,h,step,fin=>by
  simp only [forL]
  refine Ok.bind (by rw [hk];exact step pre x r s hw h) fun y hy=>?_
  cases y with
  | nx s'=>exact Ok.forI I r (pre++[x]) (k+1) s' (by simp [hw]) (by simp [hk]) hy step fin
  | ex e=>exact ⟨_,rfl,hy⟩
theorem Ok.for {body:Int→α→σ→Option (Fl σ ρ)} {Q:Fl σ ρ→Prop} (I:σ→Prop):∀(xs:List α) (k:Int) (s:σ),I s →
  (∀k x s,x∈xs→I s→Ok (body k x s) (Fl.elim I fun r=>Q (.ex r)))→(∀s,I s→Q (.nx s))→Ok (forL body xs k s) Q
 | [],k,s,h,step,fin=>⟨.nx s,rfl,fin s h⟩
 | x::r,k,s,h,step,fin=>by
  simp only [forL]
  refine Ok.bind (step k x s (by simp) h) fun y hy=>?_
  cases y with
  | nx s'=>exact Ok.for I r (k+1) s' hy (fun k x s hx=>step k x s (by simp [hx])) fin
  | ex e=>exact ⟨_,rfl,hy⟩
theorem Ok.loop {step:σ→Option (Fl σ ρ)} {Q:ρ→Prop} (I:σ→Prop) (μ:σ→Nat) (hs:∀s,I s→Ok (step s) (Fl.elim (fun s'=>I s'∧μ s'<μ s) Q)) (s:σ) (h:I s):Ok (loop step s) Q:=by
 rw [d97]
 refine Ok.bind (hs s h) fun y hy=>?_
 cases y with
 | nx s'=>exact Ok.loop I μ hs s' hy.1
 | ex r=>exact ⟨r,rfl,hy⟩
 termination_by μ s
 decreasing_by exact hy.2
end
def b0f {α ρ:Type} (f:α→Option ρ):List α→Option ρ
 | []=>none
 | x::r=>match f x with
  | some y=>some y
  | none=>b0f f r
def flO {ρ:Type}:Option ρ→Fl Unit ρ
 | some y=>.ex y
 | none=>.nx ()
theorem b97 {α ρ:Type} {body:Int→α→Unit→Option (Fl Unit ρ)} (f:α→Option ρ):∀(xs:List α) (k:Int),(∀k x,x∈xs→body k x ()=some (flO (f x)))→forL body xs k ()=some (flO (b0f f xs))
 | [],k,h=>rfl
 | x::r,k,h=>by
  simp only [forL,h k x (by simp),xQ,b0f]
  cases f x with
  | some y=>rfl
  | none=>exact b97 f r (k+1) fun k x hx=>h k x (by simp [hx])
end Go.Ab
namespace Go.Ab
open Go.RowKit
inductive Sh where
 | bool
 | int (k:IntKind)
 | str
 | sl (agg:Bool) (cs:List Sh)
 | rk (R:V→Prop)
mutual
def Sh.has:Sh→V→Prop
 | .bool,x=>∃b,x=.bool b
 | .int k,x=>∃n,x=.int k n∧rng k n
 | .str,x=>∃s,x=.str s
 | .sl agg cs,x=>∃ys,x=.sl ys∧∀y∈ys,bif agg then ∃zs,y=.agg zs∧Sh.hasL cs zs else Sh.hasL cs [y]
 | .rk R,x=>R x
def Sh.hasL:List Sh→List V→Prop
 | [],[]=>True
 | s::r,x::q=>s.has x∧Sh.hasL r q
 | _,_=>False
end
mutual
def shT (P:Program) (ρ:TypeId→Option (V→Prop)):Nat→TypeId→Option (Bool×List Sh)
 | 0,_=>none
 | n+1,t=>match P.underlying t with
  | some .bool=>some (false,[.bool])
  | some (.int k)=>some (false,[.int k])
  | some .string=>some (false,[.str])
  | some (.slice e)=>match ρ t with
   | some R=>some (false,[.rk R])
   | none=>match shT P ρ n e with
    | some (b,cs)=>bif Nat.beq (P.cellsOf e) cs.length&&Nat.blt 0 cs.length&&(b||Nat.beq cs.length 1) then some (false,[.sl b cs]) else none
    | none=>none
  | some (.struct fs)=>match e1p P ρ n 0 fs.toList with
   | some cs=>bif Nat.beq (P.cellsOf t) cs.length then some (true,cs) else none
   | none=>none
  | _=>none
def e1p (P:Program) (ρ:TypeId→Option (V→Prop)):Nat→Nat→List Field→Option (List Sh)
 | 0,_,_=>none
 | _+1,_,[]=>some []
 | n+1,off,f::r=>match shT P ρ n f.type with
  | some (_,cs)=>bif Nat.beq f.offset off&&Nat.beq (P.cellsOf f.type) cs.length then (match e1p P ρ n (off+cs.length) r with|some q=>some (cs++q)|none=>none) else none
  | none=>none
end
theorem b54:∀{a b:List Sh} {x y:List V},Sh.hasL a x→Sh.hasL b y→Sh.hasL (a++b) (x++y)
 | [],b,[],y,_,h=>h
 | s::r,b,z::q,y,h,h'=>⟨h.1,b54 h.2 h'⟩
 | [],_,_::_,_,h,_=>h.elim
 | _::_,_,[],_,h,_=>h.elim
theorem a6a:∀{a:List Sh} {x:List V},Sh.hasL a x→x.length=a.length
 | [],[],_=>rfl
 | s::r,z::q,h=>by simp [a6a h.2]
 | [],_::_,h=>h.elim
 | _::_,[],h=>h.elim
section
variable {H:Type} {enc:TypeId×Value→H} {P:Program} {w:World} {base:Nat} {sp:Nat→Bool} {held:Bool}
abbrev Old (w:World):Nat→Prop:=fun b=>b<w.heap.size
structure Reads (w:World) (off:Nat) (cs:List Value) (shs:List Sh) (xs:List V):Prop where
 has:Sh.hasL shs xs
 rd:∀(i:Nat) (x:V),xs[i]?=some x→Rd (Old w) w (cs.getD (off+i) undef) x
 sc:∀x∈xs,x.one=true∧x.sc=true
theorem e3g {k:IntKind} {n:Int} (h:(Lit.int k n).wf=true):rng k n:=by
 rw [←a13]
 simpa [Lit.wf,inR] using h
theorem c1o {a:Addr} {len cap k:Nat} {b:Bool} {shs:List Sh} (hk:0<k) (hks:shs.length=k) (hb:b=true∨k=1) (hl:len≤cap) (hm:cap≤maxLen)
  (h:∀i,i<len→∃cs xs,w.cells? base (a.add (i*k)) k=some cs∧Reads w 0 cs shs xs):∃ys,ys.length=len∧Sh.has (.sl b shs) (.sl ys)∧Rd (Old w) w (.slice (some a) len cap) (.sl ys):=by
 by_cases h0:len=0
 ·subst h0
  exact ⟨[],rfl,⟨[],rfl,fun y hy=>by cases hy⟩,.slz a cap⟩
 obtain ⟨cs0,xs0,hc0,_⟩:=h 0 (by omega)
 obtain ⟨_,_,hcell0⟩:=World.cells?_some hc0
 have hsz:=World.cells?_block hc0 hk
 rw [show (a.add (0*k)).block=a.block from by simp [Addr.add]] at hsz
 have hblk:∃cur e fz,w.heap[a.block]?=some (.cells cur e fz)∧a.spot=none:=by
  have:=hcell0 0 hk
  have hlen:=(World.cells?_some hc0).2.1
  have hs:cs0[0]?=some cs0[0]:=zJ (by omega)
  rw [hs] at this
  have e0:(a.add (0*k)).add 0=a:=by simp [Addr.add]
  rw [e0] at this
  unfold World.cell? at this
  split at this
  ·rename_i cur e fz hh
   refine ⟨cur,e,fz,hh,?_⟩
   split at this
   ·cases this
   ·rename_i hsp;simpa using hsp
  ·cases this
 obtain ⟨cur,e,fz,hh,hspot⟩:=hblk
 obtain ⟨bl,o,spot⟩:=a
 simp only at hh hspot hsz
 subst hspot
 have sp':∀i,∃y:V,i<len→∃cs xs,w.cells? base ((⟨bl,o,none⟩:Addr).add (i*k)) k=some cs∧Reads w 0 cs shs xs∧y.cells=xs∧(bif b then y=.agg xs else xs=[y]):=by
  intro i
  by_cases hi:i<len
  ·obtain ⟨cs,xs,h1,h2⟩:=h i hi
   have hl:=a6a h2.has
   cases b with
   | true=>exact ⟨.agg xs,fun _=>⟨cs,xs,h1,h2,rfl,rfl⟩⟩
   | false =>
    have hk1:k=1:=by
     rcases hb with hb|hb
     ·cases hb
     ·exact hb
    match xs,h2,hl with
    | [x],h2,_ =>
     have:=(h2.sc x (by simp)).1
     refine ⟨x,fun _=>⟨cs,[x],h1,h2,?_,rfl⟩⟩
     cases x<;>first|rfl|simp [V.one] at this
    | [],_,hl=>simp at hl;omega
    | _::_::_,_,hl=>simp at hl;omega
  ·exact ⟨.any,fun h=>absurd h hi⟩
 obtain ⟨pick,sp⟩:∃pick:Nat→V,∀i,i<len→∃cs xs,w.cells? base ((⟨bl,o,none⟩:Addr).add (i*k)) k=some cs∧Reads w 0 cs shs xs∧(pick i).cells=xs∧(bif b then pick i=.agg xs else xs=[pick i]) :=
  ⟨fun i=>(sp' i).choose,fun i=>(sp' i).choose_spec⟩
 have hcc:∀(i j:Nat) (x c:V),((List.range len).map pick)[i]?=some x→x.cells[j]?=some c→i<len∧j<k∧o+i*k+j<cur.size∧Rd (Old w) w (cur.getD (o+i*k+j) undef) c:=by
  intro i j x c hx hc
  rw [xK] at hx
  have hi:i<len:=by
   cases hr:(List.range len)[i]? with
   | none=>rw [hr] at hx;cases hx
   | some z=>have:=(zG.1 hr).1;simpa using this
  rw [List.getElem?_range hi] at hx
  simp at hx;subst hx
  obtain ⟨cs,xs,h1,h2,h3,_⟩:=sp i hi
  rw [h3] at hc
  have hj:j<k:=by rw [←hks,←a6a h2.has];exact (zG.1 hc).1
  obtain ⟨_,hlen,hcell⟩:=World.cells?_some h1
  have:=hcell j hj
  have e1:((⟨bl,o,none⟩:Addr).add (i*k)).add j=⟨bl,o+i*k+j,none⟩:=by rw [Addr.add_lit,Addr.add_lit]
  rw [e1] at this
  have hs:cs[j]?=some cs[j]:=zJ (by omega)
  rw [hs] at this
  simp only [World.cell?,hh,Option.isSome_none,xF,if_false] at this
  have hlt:=(zF.1 this).1
  refine ⟨hi,hj,hlt,?_⟩
  have hr:=h2.rd j c hc
  rw [wU] at hr
  have e2:cs.getD j undef=cs[j]:=by simp [List.getD,hs]
  have e3:cur.getD (o+i*k+j) undef=cs[j]:=by simp [zC,this]
  rw [e2] at hr
  rw [e3];exact hr
 have hmem:∀y∈(List.range len).map pick,∃i,i<len∧y=pick i:=by
  intro y hy
  obtain ⟨i,hi,rfl⟩:=wZ.1 hy
  exact ⟨i,by simpa using hi,rfl⟩
 refine ⟨(List.range len).map pick,by simp,⟨_,rfl,fun y hy=>?_⟩,.sl bl o len cap k cur e fz _ hsz hh (by simp) (by omega) hl (.inr ?_) (fun y hy=>?_) fun i j x c hx hc=>(hcc i j x c hx hc).2.2.2⟩
 ·obtain ⟨i,hi,rfl⟩:=hmem y hy
  obtain ⟨cs,xs,h1,h2,h3,h4⟩:=sp i hi
  cases b with
  | true=>exact ⟨xs,h4,h2.has⟩
  | false=>simp only [vC] at h4 ⊢;rw [←h4];exact h2.has
 · -- the row is long enough
  obtain ⟨cs,xs,h1,h2,h3,_⟩:=sp (len - 1) (by omega)
  have hxl:=a6a h2.has
  have hlast:(pick (len - 1)).cells[k - 1]?=some ((pick (len - 1)).cells[k - 1]'(by rw [h3,hxl,hks];omega)):=zJ _
  have:=hcc (len - 1) (k - 1) (pick (len - 1)) _ (by rw [xK,List.getElem?_range (by omega)];rfl) hlast
  have e1:(len - 1)*k+k=len*k:=by
   rw [←Nat.succ_mul];congr 1;omega
  omega
 ·obtain ⟨i,hi,rfl⟩:=hmem y hy
  obtain ⟨cs,xs,h1,h2,h3,h4⟩:=sp i hi
  refine ⟨by rw [h3,a6a h2.has,hks],fun c hc=>(h2.sc c (by rw [←h3];exact hc)).1,?_⟩
  cases b with
  | true=>simp only [vE] at h4;rw [h4];simp only [V.sealed,xX];exact fun c hc=>(h2.sc c hc).2
  | false =>
   simp only [vC] at h4
   have:=(h2.sc (pick i) (by rw [h4];simp))
   have hs:=this.2
   generalize pick i=z at hs this
   cases z<;>first|exact hs|simp [V.one] at this
def d3m (H:Type) (enc:TypeId×Value→H) (P:Program) (w:World) (base:Nat) (sp:Nat→Bool) (held:Bool) (ρ:TypeId→Option (V→Prop)) (F:Nat):Prop :=
 ∀t R,ρ t=some R→∀fuel,fuel≤F→∀(e:TypeId) (cs:List Value) (x:DataW H×List MemPlace),P.underlying t=some (.slice e)→DataW.trod enc P w base sp held fuel t cs=some x→∃y,Reads w 0 cs [.rk R] [y]∧cs.length=1
theorem c05 {ρ:TypeId→Option (V→Prop)} {F:Nat} (hρ:d3m H enc P w base sp held ρ F):∀(n:Nat),(∀(fuel:Nat),fuel≤F→∀(t:TypeId) (cs:List Value) (x:DataW H×List MemPlace) (b:Bool) (shs:List Sh),shT P ρ n t=some (b,shs)→DataW.trod enc P w base sp held fuel t cs=some x→∃xs,Reads w 0 cs shs xs∧cs.length=shs.length) ∧
  (∀(fuel:Nat),fuel≤F→∀(off:Nat) (fs:List Field) (cs:List Value) (shs:List Sh),e1p P ρ n off fs=some shs→(∀f∈fs,∃x,DataW.trod enc P w base sp held fuel f.type ((cs.drop f.offset).take (P.cellsOf f.type))=some x)→∃xs,Reads w off cs shs xs)
 | 0=>⟨fun _ _ _ _ _ _ _ h=>by simp [shT] at h,fun _ _ _ _ _ _ h=>by simp [e1p] at h⟩
 | n + 1 => by
  obtain ⟨ih1,ih2⟩:=c05 hρ n
  refine ⟨fun fuel hF t cs x b shs h ht=>?_,fun fuel hF off fs cs shs h ht=>?_⟩
  ·simp only [shT] at h
   split at h
   ·rename_i hu
    cases h
    obtain ⟨v,rfl,rfl⟩:=DataW.trod_bool hu ht
    exact ⟨[.bool v],⟨⟨⟨v,rfl⟩,trivial⟩,fun i x hx=>(by cases i<;>simp at hx;subst hx;exact .bool v),fun x hx=>by simp at hx;subst hx;exact ⟨rfl,rfl⟩⟩,rfl⟩
   ·rename_i k hu
    cases h
    obtain ⟨v,rfl,rfl,hw⟩:=DataW.trod_int hu ht
    have hr:=e3g hw
    exact ⟨[.int k v],⟨⟨⟨v,rfl,hr⟩,trivial⟩,fun i x hx=>(by cases i<;>simp at hx;subst hx;exact .int k v (a13.2 hr)),fun x hx=>by simp at hx;subst hx;exact ⟨rfl,rfl⟩⟩,rfl⟩
   ·rename_i hu
    cases h
    obtain ⟨s,rfl,rfl,hs⟩:=DataW.trod_string hu ht
    exact ⟨[.str s.data.toList],⟨⟨⟨_,rfl⟩,trivial⟩,fun i x hx=>(by cases i<;>simp at hx;subst hx;exact .str s hs),fun x hx=>by simp at hx;subst hx;exact ⟨rfl,rfl⟩⟩,rfl⟩
   ·rename_i e hu
    split at h
    ·rename_i R hR
     cases h
     obtain ⟨y,h1,h2⟩:=hρ t R hR fuel hF e cs x hu ht
     exact ⟨[y],h1,h2⟩
    split at h
    ·rename_i b' cs' he
     cases hc:(Nat.beq (P.cellsOf e) cs'.length&&Nat.blt 0 cs'.length&&(b'||Nat.beq cs'.length 1)) with
     | false=>rw [hc] at h;cases h
     | true =>
      rw [hc] at h;cases h
      simp only [xY,wI] at hc
      have hce:=zR hc.1.1
      have hpos:0<cs'.length:=by have:=hc.1.2;simp [Nat.blt] at this;omega
      rcases DataW.trod_slice hu ht with ⟨rfl,_⟩|⟨a,len,cap,elems,rest,m,hfm,rfl,_,_,hl,hm,hel,hall,_⟩
      ·exact ⟨[.sl []],⟨⟨⟨[],rfl,fun y hy=>by cases hy⟩,trivial⟩,fun i x hx=>(by cases i<;>simp at hx;subst hx;exact .nilsl),fun x hx=>by simp at hx;subst hx;exact ⟨rfl,rfl⟩⟩,rfl⟩
      ·obtain ⟨ys,_,h1,h2⟩:=c1o (w:=w) (base:=base) (a:=a) (len:=len) (cap:=cap) (k:=P.cellsOf e) (b:=b') (shs:=cs') (by omega) hce.symm (by rcases hc.2 with h|h;exact .inl h;exact .inr (by rw [hce];exact zR h)) hl hm (fun i hi=>by
        have:=hall i hi
        have hs:elems[i]?=some elems[i]:=zJ (by omega)
        rw [hs] at this
        obtain ⟨cs,h3,h4⟩:=zL.1 this
        obtain ⟨xs,h5,_⟩:=ih1 _ (by omega) _ _ _ _ _ he h4
        exact ⟨cs,xs,h3,h5⟩)
       exact ⟨[.sl ys],⟨⟨h1,trivial⟩,fun i x hx=>(by cases i<;>simp at hx;subst hx;exact h2),fun x hx=>by simp at hx;subst hx;exact ⟨rfl,rfl⟩⟩,rfl⟩
    ·cases h
   ·rename_i fs hu
    split at h
    ·rename_i cs' hf
     cases hc:Nat.beq (P.cellsOf t) cs'.length with
     | false=>rw [hc] at h;cases h
     | true =>
      rw [hc] at h
      simp only [vE,xI,Prod.mk.injEq] at h
      obtain ⟨_,rfl⟩:=h
      obtain ⟨xs,m,hfu,_,hl,hxl,hall⟩:=DataW.trod_struct hu ht
      obtain ⟨ys,hy⟩:=ih2 m (by omega) 0 fs.toList cs cs' hf (fun f hfm=>by
       obtain ⟨i,hi⟩:=zS.1 hfm
       have hi':fs[i]?=some f:=by simpa using hi
       have:=hall i f hi'
       have hlt:i<xs.length:=by rw [hxl];exact (zF.1 hi').1
       rw [zJ hlt] at this
       exact ⟨_,this⟩)
      exact ⟨ys,hy,by rw [hl];exact zR hc⟩
    ·cases h
   ·cases h
  ·cases fs with
   | nil=>simp [e1p] at h;subst h;exact ⟨[],trivial,fun i x hx=>by simp at hx,fun x hx=>by cases hx⟩
   | cons f r =>
    simp only [e1p] at h
    split at h
    ·rename_i b' cs' he
     cases hc:(Nat.beq f.offset off&&Nat.beq (P.cellsOf f.type) cs'.length) with
     | false=>rw [hc] at h;cases h
     | true =>
      rw [hc] at h
      simp only [vE] at h
      simp only [xY] at hc
      have ho:=zR hc.1
      have hce:=zR hc.2
      split at h
      ·rename_i q hq
       cases h
       obtain ⟨x,hx⟩:=ht f (by simp)
       obtain ⟨xs,h1,hxl⟩:=ih1 _ hF _ _ _ _ _ he hx
       obtain ⟨ys,h2⟩:=ih2 fuel hF _ r cs q hq fun f' hf'=>ht f' (by simp [hf'])
       have hlx:=a6a h1.has
       refine ⟨xs++ys,b54 h1.has h2.has,fun i z hz=>?_,fun z hz=>?_⟩
       ·by_cases hi:i<xs.length
        ·rw [zH hi] at hz
         have:=h1.rd i z hz
         rw [wU] at this
         have e1:((cs.drop f.offset).take (P.cellsOf f.type)).getD i undef=cs.getD (off+i) undef:=by
          have hi':i<P.cellsOf f.type:=by omega
          simp [List.getD,xC,hi',ho]
         rw [e1] at this;exact this
        ·rw [zD (by omega)] at hz
         have:=h2.rd (i - xs.length) z hz
         rw [←hlx] at this
         rw [show off+i=off+xs.length+(i - xs.length) by omega]
         exact this
       ·rcases wC.1 hz with hz|hz
        ·exact h1.sc z hz
        ·exact h2.sc z hz
      ·cases h
    ·cases h
def e9n (P:Program) (ρ:TypeId→Option (V→Prop)) (n:Nat) (t:TypeId) (R:V→Prop):Prop :=
 ∃e b cs,P.underlying t=some (.slice e)∧shT P ρ n e=some (b,cs)∧(Nat.beq (P.cellsOf e) cs.length&&Nat.blt 0 cs.length&&(b||Nat.beq cs.length 1))=true ∧
  ∀ys:List V,ys.length≤maxLen→(∀y∈ys,bif b then ∃zs,y=.agg zs∧Sh.hasL cs zs else Sh.hasL cs [y])→R (.sl ys)
theorem d42 {ρ:TypeId→Option (V→Prop)} {n:Nat} (hR:∀t R,ρ t=some R→e9n P ρ n t R):∀F,d3m H enc P w base sp held ρ F
 | 0=>fun t R hr fuel hF e cs x hu ht=>by
  have:fuel=0:=by omega
  subst this
  simp [DataW.trod] at ht
 | F+1=>fun t R hr fuel hF e cs x hu ht=>by
  have ih:=d42 hR F
  obtain ⟨e',b',cs',hu',he,hc,hall'⟩:=hR t R hr
  rw [hu] at hu'
  cases hu'
  simp only [xY,wI] at hc
  have hce:=zR hc.1.1
  have hpos:0<cs'.length:=by have:=hc.1.2;simp [Nat.blt] at this;omega
  rcases DataW.trod_slice hu ht with ⟨rfl,_⟩|⟨a,len,cap,elems,rest,m,hfm,rfl,_,_,hl,hm,hel,hall,_⟩
  ·exact ⟨.sl [],⟨⟨hall' [] (w6 _) (fun y hy=>by cases hy),trivial⟩,fun i x hx=>(by cases i<;>simp at hx;subst hx;exact .nilsl),fun x hx=>by simp at hx;subst hx;exact ⟨rfl,rfl⟩⟩,rfl⟩
  ·obtain ⟨ys,h0,⟨ys',e1,h1⟩,h2⟩:=c1o (w:=w) (base:=base) (a:=a) (len:=len) (cap:=cap) (k:=P.cellsOf e) (b:=b') (shs:=cs') (by omega) hce.symm (by rcases hc.2 with h|h;exact .inl h;exact .inr (by rw [hce];exact zR h)) hl hm (fun i hi=>by
    have:=hall i hi
    have hs:elems[i]?=some elems[i]:=zJ (by omega)
    rw [hs] at this
    obtain ⟨cs,h3,h4⟩:=zL.1 this
    obtain ⟨xs,h5,_⟩:=(c05 ih n).1 _ (by omega) _ _ _ _ _ he h4
    exact ⟨cs,xs,h3,h5⟩)
   cases e1
   exact ⟨.sl ys,⟨⟨hall' ys (by omega) h1,trivial⟩,fun i x hx=>(by cases i<;>simp at hx;subst hx;exact h2),fun x hx=>by simp at hx;subst hx;exact ⟨rfl,rfl⟩⟩,rfl⟩
end
end Go.Ab
namespace Go.Ab
open Go.RowKit Go.WideShapes
def d38 (s:Bool×List Sh) (x:V):Prop:=bif s.1 then ∃zs,x=.agg zs∧Sh.hasL s.2 zs else Sh.hasL s.2 [x]
def b5g:List (Bool×List Sh)→List V→Prop
 | [],[]=>True
 | s::r,x::q=>d38 s x∧b5g r q
 | _,_=>False
section
variable {H:Type} {enc:TypeId×Value→H} {P:Program} {W:World} {base:Nat}
def gh0 (W:World):Gh:=⟨Old W,id,id,id,fun _=>False,fun _ _=>none⟩
theorem b4n {v:Value} {b:Bool} {shs:List Sh} {xs:List V} (hc:v.cells=#[v]) (h:Reads W 0 v.cells.toList shs xs) (hl:v.cells.toList.length=shs.length):∃y,VR (gh0 W) W v y∧d38 (false,shs) y:=by
 have h1:xs.length=1:=by rw [a6a h.has,←hl,hc];rfl
 match xs,h1,h with
 | [y],_,h =>
  refine ⟨y,.rd ?_,h.has⟩
  have:=h.rd 0 y rfl
  rw [hc] at this
  exact (by simpa using this:Rd (Old W) W v y)
theorem c8s {ρ:TypeId→Option (V→Prop)} (hρ:∀F,d3m H enc P W 0 (fun _=>true) true ρ F) {n:Nat} {t:TypeId} {b:Bool} {shs:List Sh} {v:Value} {d:DataW H} {ps:List MemPlace} (hs:shT P ρ n t=some (b,shs)) (hv:Value.okWide P W .any base t v) (ht:DataW.Trod enc P W 0 (fun _=>true) true t v d ps) :
  ∃y,VR (gh0 W) W v y∧d38 (b,shs) y:=by
 obtain ⟨fuel,ht⟩:=ht
 obtain ⟨xs,h1,h2⟩:=(c05 (enc:=enc) (P:=P) (w:=W) (base:=0) (sp:=fun _=>true) (held:=true) (hρ fuel) n).1 fuel (w8 _) t _ _ _ _ hs ht
 cases n with
 | zero=>simp [shT] at hs
 | succ n =>
  simp only [shT] at hs
  split at hs
  ·rename_i hu
   cases hs
   obtain ⟨c,rfl⟩:=okWide_bool hu hv
   exact b4n (b:=false) rfl h1 h2
  ·rename_i k hu
   cases hs
   obtain ⟨c,rfl⟩:=okWide_int hu hv
   exact b4n (b:=false) rfl h1 h2
  ·rename_i hu
   cases hs
   obtain ⟨c,rfl⟩:=okWide_string hu hv
   exact b4n (b:=false) rfl h1 h2
  ·rename_i e hu
   split at hs
   ·cases hs
    obtain ⟨a,len,cap,rfl⟩:=okWide_slice hu hv
    exact b4n (b:=false) rfl h1 h2
   split at hs
   ·cases hc:(Nat.beq (P.cellsOf e) _&&Nat.blt 0 _&&(_||Nat.beq _ 1)) with
    | false=>rw [hc] at hs;cases hs
    | true =>
     rw [hc] at hs;cases hs
     obtain ⟨a,len,cap,rfl⟩:=okWide_slice hu hv
     exact b4n (b:=false) rfl h1 h2
   ·cases hs
  ·rename_i fs hu
   split at hs
   ·rename_i cs' hf
    cases hc:Nat.beq (P.cellsOf t) cs'.length with
    | false=>rw [hc] at hs;cases hs
    | true =>
     rw [hc] at hs
     simp only [vE,xI,Prod.mk.injEq] at hs
     obtain ⟨rfl,rfl⟩:=hs
     obtain ⟨cs,rfl,_⟩:=okWide_struct hu hv
     refine ⟨.agg xs,.rd (.agg cs xs ?_ fun i c hc=>?_),⟨xs,rfl,h1.has⟩⟩
     ·have:=a6a h1.has
      have h2':cs.size=cs'.length:=by simpa [Value.cells] using h2
      omega
     ·have:=h1.rd i c hc
      exact (by simpa [Value.cells,zC,List.getD] using this:Rd (Old W) W (cs.getD i undef) c)
   ·cases hs
  ·cases hs
theorem b6v {ρ:TypeId→Option (V→Prop)} (hρ:∀F,d3m H enc P W 0 (fun _=>true) true ρ F) {n:Nat}:∀{ts:List TypeId} {shs:List (Bool×List Sh)} {vs:List Value} {ds:List (DataW H)} {ps:List MemPlace},ts.map (shT P ρ n)=shs.map some→(∀(j:Nat) t v,ts[j]?=some t→vs[j]?=some v→Value.okWide P W .any base t v) →
  DataW.TrodAll enc P W 0 (fun _=>true) true ts vs ds ps→∃ys,ys.length=vs.length∧b5g shs ys∧∀(i:Nat) (y:V),ys[i]?=some y→VR (gh0 W) W (vs.getD i undef) y
 | [],shs,[],[],ps,hs,_,_=>by
  cases shs with
  | nil=>exact ⟨[],rfl,trivial,fun i y h=>by simp at h⟩
  | cons _ _=>simp at hs
 | t::ts,shs,v::vs,d::ds,ps,hs,hv,h=>by
  cases shs with
  | nil=>simp at hs
  | cons s shs =>
   simp only [wP,wG] at hs
   obtain ⟨p,q,h1,h2,_⟩:=h
   obtain ⟨b,sh⟩:=s
   obtain ⟨y,k1,k2⟩:=c8s hρ hs.1 (hv 0 t v rfl rfl) h1
   obtain ⟨ys,k3,k4,k5⟩:=b6v hρ hs.2 (fun j t v h1 h2=>hv (j+1) t v (by simpa using h1) (by simpa using h2)) h2
   refine ⟨y::ys,by simp [k3],⟨k2,k4⟩,fun i z hz=>?_⟩
   cases i with
   | zero=>simp at hz;subst hz;simpa using k1
   | succ i=>simp at hz;simpa using k5 i z hz
 | [],_,_::_,_,_,_,_,h=>h.elim
 | [],_,[],_::_,_,_,_,h=>h.elim
 | _::_,_,[],_,_,_,_,h=>h.elim
 | _::_,_,_::_,[],_,_,_,h=>h.elim
theorem b4b {w:World} {sp:Nat→Bool} {held:Bool}:∀{ts:List TypeId} {vs:List Value} {ds:List (DataW H)} {ps:List MemPlace},DataW.TrodAll enc P w base sp held ts vs ds ps→ds.length=ts.length∧vs.length=ts.length
 | [],[],[],_,_=>⟨rfl,rfl⟩
 | t::ts,v::vs,d::ds,ps,h=>by
  obtain ⟨p,q,_,h2,_⟩:=h
  have:=b4b h2
  simp [this.1,this.2]
 | [],_::_,_,_,h=>h.elim
 | [],[],_::_,_,h=>h.elim
 | _::_,[],_,_,h=>h.elim
 | _::_,_::_,[],_,h=>h.elim
theorem a9q {W':World} {sp:Nat→Bool} (hl:laidOutB P=true):∀{ts:List TypeId} {vs:List Value} {ds:List (DataW H)} {ps:List MemPlace},(∀t∈ts,P.readableRec t=true∧t<P.types.size)→(∀p∈ps,W.sameAt W' p∧sp p.block=true) →
  DataW.TrodAll enc P W base (fun _=>true) true ts vs ds ps→DataW.TrodAll enc P W' base sp true ts vs ds ps
 | [],[],[],_,_,_,h=>h
 | t::ts,v::vs,d::ds,ps,ht,hp,h=>by
  obtain ⟨p,q,h1,h2,rfl⟩:=h
  exact ⟨p,q,WideElems.Trod_stays hl (ht t (by simp)).1 (ht t (by simp)).2 h1 (fun x hx=>(hp x (by simp [hx])).1) (fun x hx=>(hp x (by simp [hx])).2),
   a9q hl (fun t' h'=>ht t' (by simp [h'])) (fun x hx=>hp x (by simp [hx])) h2,rfl⟩
 | [],_::_,_,_,_,_,h=>h.elim
 | [],[],_::_,_,_,_,h=>h.elim
 | _::_,[],_,_,_,_,h=>h.elim
 | _::_,_::_,[],_,_,_,h=>h.elim
theorem c78 {ρ:TypeId→Option (V→Prop)} {nr:Nat} (hR:∀t R,ρ t=some R→e9n P ρ nr t R) {f:Nat} {fn:Func} {s:ChangeSpec} {n:Nat} {shs:List (Bool×List Sh)} {tb:TypeId} (hl:laidOutB P=true) (hrd:∀t∈fn.params.toList,P.readableRec t=true∧t<P.types.size) (hsh:fn.params.toList.map (shT P ρ n)=shs.map some)
  (hrt:fn.resultTypes=#[tb]) (hb:P.underlying tb=some .bool) (hvars:s.vars=[]) (hfn:∀ds:List (DataW H),ds.length=fn.params.size→s.fn H ds={ results:=[.lit (.bool true)],args:=ds })
  (hcall:∀ys,b5g shs ys→l9 P f ys [] (fun r H=>r=.bool true∧H=[]))
  {args:Array Value} {ds gs:List (DataW H)} {before:List MemPlace} (hval:∀(j:Nat) t v,fn.params[j]?=some t→args[j]?=some v→Value.okWide P W .any base t v)
  (hW:DataW.Whole enc P fn.params.toList s.vars false W args.toList ds gs before) (htabs:e9m P W) :
  Calls P f args W fun e W'=>∃v,e=.returned v∧s.post enc P fn false true false false W args v W':=by
 have hW0:=hW
 obtain ⟨p,q,hA,hV,rfl,hfz,_⟩:=hW
 rw [hvars] at hV
 have hgs:gs=[]∧q=[]:=by
  cases gs with
  | nil=>exact ⟨rfl,hV⟩
  | cons _ _=>exact hV.elim
 obtain ⟨rfl,rfl⟩:=hgs
 obtain ⟨ys,k1,k2,k3⟩:=b6v (base:=base) (d42 hR) hsh (fun j t v h1 h2=>hval j t v (by simpa using h1) (by simpa using h2)) hA
 have hkeep:∀{w':World},a1l (Old W) W w'→e9m P w':=by
  intro w' hk
  have key:∀(n:String) (cs:Array Value),World.var? P W n=some cs→World.var? P w' n=some cs:=fun n cs h=>by
   unfold World.var? at h ⊢
   cases hgn:P.globalNamed n with
   | none=>rw [hgn] at h;cases h
   | some g =>
    rw [hgn] at h
    simp only [xQ] at h ⊢
    have hlt:g<W.heap.size:=by
     cases hh:W.heap[g]? with
     | none=>rw [hh] at h;cases h
     | some o=>exact (zF.1 hh).1
    rw [hk g hlt];exact h
  exact ⟨fun d hd hg=>key _ _ (htabs.1 d hd hg),fun n hn hg=>by
   obtain ⟨tp,p,h⟩:=htabs.2 n hn hg
   exact ⟨tp,p,key _ _ h⟩⟩
 have hH:a2o P (gh0 W) W []:=⟨fun id o h=>(by cases h),fun i j o o' h=>(by cases h),fun id o h=>(by cases h),fun b h=>h,fun w' hk=>hkeep hk,fun _ _ _ h=>(by cases h),fun _ _ _ _ _ _ _ _ _ _ _ h=>(by cases h)⟩
 refine ((hcall ys k2).2 (gh0 W) W args hH (by rw [k1];simp) fun i x hx=>?_).mono ?_
 ·have:=k3 i x hx
  simpa [zC,List.getD] using this
 ·rintro e W' ⟨v,r,H',g',rfl,⟨rfl,rfl⟩,_,hv,hf,_⟩
  have hold:∀b,b<W.heap.size→W'.heap[b]?=W.heap[b]?:=fun b hb=>hf.old b hb fun ⟨id,o,h,_⟩=>by cases h
  have hvt:=hv.bool_inv
  subst hvt
  obtain ⟨hdl,hvl⟩:=b4b hA
  have hlt:∀x∈p++[],x.block<W.heap.size:=fun x hx=>hW0.lt x hx
  have hfnds:=hfn ds (by rw [hdl];simp)
  refine ⟨_,rfl,ds,[],p++[],[],p,[],hW0,?_,?_,?_,?_,fun h=>by cases h⟩
  ·rw [wH,hfnds,hrt]
   exact ⟨[],[],⟨1,by simp [DataW.trod,hb,Value.cells]⟩,rfl,rfl⟩
  ·rw [wH,hfnds]
   refine a9q hl hrd (fun x hx=>⟨?_,by simpa using hlt x (by simp [hx])⟩) hA
   have:=hold x.block (hlt x (by simp [hx]))
   cases x with
   | cell b off=>simp only [MemPlace.block] at this;simp [World.sameAt,World.cell?,this]
   | map b=>exact this
  ·rw [hvars,wH,hfnds];rfl
  ·refine ⟨hf.os,hf.output,fun i hi=>?_⟩
   rw [hold i hi]
   cases W.heap[i]? with
   | none=>rfl
   | some o=>cases o<;>first|rfl|exact ⟨rfl,rfl,rfl,fun _ _=>rfl⟩|exact .inr ⟨rfl,rfl⟩
theorem c2e {name:String} {d:DataW Unit}:∀{l:List (String×DataW Unit)} {ps:List MemPlace},DataW.LaidVars P W l ps→(name,d)∈l →
  ∃g t cs fuel p,P.globalNamed name=some g∧(P.globals[g]?).map (·.type)=some t∧W.var? P name=some cs∧DataW.trod (fun _=>()) P W 0 (fun _=>true) false fuel t cs.toList=some (d,p)
 | (n,d')::r,ps,h,hm=>by
  obtain ⟨g,t,cs,fuel,p,q,h1,h2,h3,h4,h5,_⟩:=h
  rcases wO.1 hm with e|hm
  ·cases e;exact ⟨g,t,cs,fuel,p,h1,h2,h3,h4⟩
  ·exact c2e h5 hm
theorem c3j {name:String} {k:IntKind} {zs:List Int} {l:List (String×DataW Unit)} {g:Nat} {t e:TypeId} {n:Nat} (hm:(name,Lib.tabData k zs)∈l)
  (hg:P.globalNamed name=some g) (hty:(P.globals[g]?).map (·.type)=some t) (ht:P.underlying t=some (.array n e)) (he:P.underlying e=some (.int k)) (hce:P.cellsOf e=1) (hct:P.cellsOf t=n) (h:laidMet P l W):Lib.TabIs P W name k zs:=by
 obtain ⟨ps,hl,_⟩:=h
 obtain ⟨g',t',cs,fuel,p,hg',ht',hvar,hd⟩:=c2e hl hm
 obtain rfl:=x5 (hg.symm.trans hg')
 obtain rfl:=x5 (hty.symm.trans ht')
 unfold Lib.TabIs
 rw [hvar,←Lib.cells_of_tab ht he hce hct hd]
theorem b7u {n nm:String} {text:List UInt8} {g:Nat} {ti tp te ts:TypeId} {ms:Array (String×TypeId)} {f:Field}
  (hg:P.globalNamed n=some g) (ht:(P.globals[g]?).map (·.type)=some ti) (hi:P.underlying ti=some (.interface ms)) (hrow:∀u,P.typeName? 3 u=some nm→u=tp)
  (hp:P.underlying tp=some (.pointer te)) (he:P.underlying te=some (.struct #[f])) (hft:f.type=ts) (hfo:f.offset=0) (hs:P.underlying ts=some .string) (hc:P.cellsOf te=1) (hcs:P.cellsOf ts=1) :
  ∀{l:List (String×DataW Unit)} (k:Nat),l[k]?=some (n,.iface nm (.ptr (.agg [.lit (.string text)])))→laidMet P l W→∃tp p,World.var? P W n=some #[.iface tp p]
 | [],_,e,_=>by cases e
 | x::r,0,e,h=>by
  obtain rfl:=x5 e
  obtain ⟨a,s,hv,_⟩:=laid_sentinel h hg ht hi hrow hp he hft hfo hs hc hcs
  exact ⟨tp,_,hv⟩
 | x::r,k+1,e,h=>b7u hg ht hi hrow hp he hft hfo hs hc hcs (l:=r) k (by simpa using e) h.tail
theorem d44 {α:Type} {f:α→V}:∀{ys:List V},(∀y∈ys,∃a,y=f a)→∃l:List α,ys=l.map f
 | [],_=>⟨[],rfl⟩
 | y::r,h=>by
  obtain ⟨a,rfl⟩:=h y (by simp)
  obtain ⟨l,rfl⟩:=d44 (ys:=r) fun z hz=>h z (by simp [hz])
  exact ⟨a::l,rfl⟩
theorem b5f {s:Bool×List Sh} {r:List (Bool×List Sh)} {ys:List V} (h:b5g (s::r) ys):∃x q,ys=x::q∧d38 s x∧b5g r q:=by
 cases ys with
 | nil=>exact h.elim
 | cons x q=>exact ⟨x,q,rfl,h.1,h.2⟩
theorem c5c {ys:List V} (h:b5g [] ys):ys=[]:=by
 cases ys with
 | nil=>rfl
 | cons x q=>exact h.elim
end
end Go.Ab
namespace Go.Ab
open Go.RowKit
section
variable {P:Program}
def e3q (xs:List Int):Option (List Int):=if xs.length<4611686018427387904 then some (xs.mergeSort fun x y=>decide (x≤y)) else none
end
end Go.Ab
namespace Go.Ab
open Go.RowKit Go.Deep
end Go.Ab
namespace Go.Ab
open Go.RowKit
section
variable {P:Program}
theorem g2g {vals:Array Value} (h:vals.size=3):vals=#[vals.getD 0 undef,vals.getD 1 undef,vals.getD 2 undef]:=by
 apply Array.ext
 ·simp [h]
 ·intro i h1 h2
  have:i=0∨i=1∨i=2:=by omega
  rcases this with rfl|rfl|rfl<;>simp [zC,h1]
theorem f6d {vals:Array Value} (h:vals.size=2):vals=#[vals.getD 0 undef,vals.getD 1 undef]:=by
 apply Array.ext
 ·simp [h]
 ·intro i h1 h2
  have:i=0∨i=1:=by omega
  rcases this with rfl|rfl<;>simp [zC,h1]
theorem f2z {g:Gh} {w:World} {v:Value} {xs:List V} (h:VR g w v (.sl xs)):Rd g.S w v (.sl xs):=by
 cases h with
 | rd h=>exact h
end
def bws (b s:Str):Option Str:=chk (room (b.length+s.length) 1) (some (b++s))
def f5x (b:Str):Option Str:=some b
def c4n (n:Int):Option Str:=chk (a0c n) (some (Lib.itoa n))
def a5s (s:Str):Int:=match Lib.atoiAll s with
 | .ok v=>v
 | .range=>Lib.atoiSat s
 | _=>0
def d34 (s:Str):Option Int:=chk (decide (s.length≤281474976710656)) (some (a5s s))
theorem c8p {s:Str} {y:Int} (h:d34 s=some y):s.length≤281474976710656∧y=a5s s:=by
 unfold d34 chk at h
 cases hc:decide (s.length≤281474976710656) with
 | false=>rw [hc] at h;cases h
 | true =>
  rw [hc] at h
  exact ⟨of_decide_eq_true hc,(x5 h).symm⟩
def b63 (s:Str):Bool:=match Lib.atoiAll s with
 | .ok _=>true
 | _=>false
def c5a (s:Str):Option (Int×Bool):=chk (decide (s.length≤281474976710656)) (some (a5s s,b63 s))
theorem c8q {s:Str} {y:Int×Bool} (h:c5a s=some y):s.length≤281474976710656∧y=(a5s s,b63 s):=by
 unfold c5a chk at h
 cases hc:decide (s.length≤281474976710656) with
 | false=>rw [hc] at h;cases h
 | true =>
  rw [hc] at h
  exact ⟨of_decide_eq_true hc,(x5 h).symm⟩
def f0j (c:Str):Bool:=c.all (fun b=>decide (b.toNat<128))&&decide (c.length≤1000)
def b8a (s c:Str):Option Str:=chk (f0j c) (some (s.dropWhile (c.contains ·)))
theorem c3i {s c y:Str} (h:b8a s c=some y):f0j c=true∧y=s.dropWhile (c.contains ·):=by
 unfold b8a chk at h
 cases hc:f0j c with
 | false=>rw [hc] at h;cases h
 | true=>rw [hc] at h;cases h;exact ⟨rfl,rfl⟩
theorem b3b {α:Type} (p:α→Bool):∀l:List α,(l.dropWhile p).length≤l.length
 | []=>by simp
 | x::r=>by
  simp only [List.dropWhile]
  split
  ·have:=b3b p r;simp;omega
  ·simp
theorem b9m (s:Str):rng .i64 (a5s s):=by
 unfold a5s
 split
 ·rename_i v h;exact Lib.atoiAll_bounds h
 ·unfold Lib.atoiSat
  split<;>exact ⟨by decide,by decide⟩
 ·exact ⟨by decide,by decide⟩
theorem e0f {b s y:Str} (h:bws b s=some y):b.length+s.length≤140737488355328∧y=b++s:=by
 unfold bws chk at h
 cases hc:room (b.length+s.length) 1 with
 | false=>rw [hc] at h;cases h
 | true =>
  rw [hc] at h
  have:=b41.1 hc
  refine ⟨by simpa using this,?_⟩
  cases h;rfl
theorem c7d {n:Int} {y:Str} (h:c4n n=some y):rng .i64 n∧y=Lib.itoa n:=by
 unfold c4n chk at h
 cases hc:a0c n with
 | false=>rw [hc] at h;cases h
 | true =>
  rw [hc] at h
  refine ⟨a8p.1 hc,?_⟩
  cases h;rfl
end Go.Ab
namespace Go.Ab
open Go.Proofs
theorem c4r {n k m:Nat} {o:Option Nat}:V.sealOK n k m (fnV o)=True:=by cases o<;>simp [fnV,V.sealOK,V.sealOKs]
theorem d2i {n:Nat} {xs:List V} {o:Option Nat}:V.shut n xs (fnV o)=fnV o:=by cases o<;>simp [fnV,V.shut,V.sealL]
theorem d9v {a b:Nat} {o:Option Nat}:V.ren a b (fnV o)=fnV o:=by cases o<;>simp [fnV,V.ren,V.renL]
theorem d9u {n:Nat} {y:V} {o:Option Nat}:V.shm n y (fnV o)=fnV o:=by cases o<;>simp [fnV,V.shm,V.shmL]
theorem c4q {l:List Nat} {o:Option Nat}:V.within l (fnV o)=true:=by cases o<;>simp [fnV,V.within,V.withinL]
attribute [go_sem ↓] c2p c7u d4c c7t c4r d2i d9v d9u c4q c7s c7v b99 d4b b98 c2o
class WI {α:Type} (F:Option α) (P:outParam Program) (n:outParam Nat) (args:outParam (List V)) (H:outParam Heap) (RV:outParam (α→V)) (HV:outParam (α→Heap)):Prop where
 c:Cn P n args H F RV HV
theorem WI.w {α:Type} {F:Option α} {P:Program} {n:Nat} {args:List V} {H:Heap} {RV:α→V} {HV:α→Heap} [i:WI F P n args H RV HV] {y:α} (hy:F=some y):l9 P n args H (fun r H'=>r=RV y∧H'=HV y):=i.c.w hy
def Al {α:Type} (o:Option α) (Q:α→Prop):Prop:=∀y,o=some y→Q y
section
variable {α β:Type} {Q:α→Prop}
theorem Al.chk {b:Bool} {o:Option α} (h:Al o Q):Al (chk b o) Q:=by
 intro y e
 cases b with
 | true=>exact h y e
 | false=>cases e
theorem Al.ite {b:Bool} {x y:Option α} (h1:Al x Q) (h2:Al y Q):Al (bif b then x else y) Q:=by cases b<;>assumption
theorem Al.bind {o:Option β} {f:β→Option α} (h:∀y,o=some y→Al (f y) Q):Al (o.bind f) Q:=by
 intro y e
 obtain ⟨w,h1,h2⟩:=zL.1 e
 exact h w h1 y h2
theorem Al.jn {o:Option β} {f:β→Option α} (h:∀y,o=some y→Al (f y) Q):Al (jn o f) Q:=Al.bind h
theorem Al.grp {x:β} {f:β→Option α} (h:Al (f x) Q):Al (grp x f) Q:=h
theorem Al.some {x:α} (h:Q x):Al (some x) Q:=fun y e=>by cases e;exact h
theorem Al.none:Al none Q:=fun y e=>by cases e
end
class LI (b:MC) (isl nsl:outParam Nat) (ke kh:outParam (List Nat)) {σ:outParam Type} (ue:outParam (σ→List (Nat×V))) (uh:outParam (σ→List Up)) (ns:outParam (List a5r)):Prop
class GI (b:List MOp) (ke kh:outParam (List Nat)) {σ:outParam Type} (ue:outParam (σ→List (Nat×V))) (uh:outParam (σ→List Up)):Prop
class GV (b:List MOp) (d:outParam Nat) (ds:outParam (List Nat)):Prop
section
variable {M:a0r} {c:Cfg} {e:List (Nat×V)} {h:Heap} {s:List Fr}
theorem a0r.go_un {b b':MC} {σ:St} (e:b=b') (h:M.go c b' s σ):M.go c b s σ:=e▸h
theorem a0r.ops_un {b b':List MOp} {σ:St} (e:b=b') (h:M.ops c b' s σ):M.ops c b s σ:=e▸h
theorem a0r.jn2 {α β:Type} {a b:MC} {A:Option α} {B:α→Option β} {Q:β→Prop} {i n:Nat} {ke kh:List Nat} {ue:α→List (Nat×V)} {uh:α→List Up} {ns:List a5r} [LI b i n ke kh ue uh ns] (hF:Ok (jn A B) Q)
  (h1:∀(Qn:α→Prop) (K:St→Prop),(∀σ',(a0f c.H0 ns σ' fun σ'=>∃y,Qn y∧a0p (ovS e h ke kh (ue y) (uh y)) σ')→K σ')→Ok A Qn→M.go ⟨c.P,c.H0,K,M.kX c s,c.R⟩ a [] ⟨e,h⟩)
  (h2:∀y,Ok (B y) Q→M.go c b s (ovS e h ke kh (ue y) (uh y))):M.go c (.cut a b) s ⟨e,h⟩:=M.jn1 ke kh ue uh ns hF h1 h2
theorem a0r.jnE2 {α β ρ:Type} {a b:MC} {A:Option (Fl α ρ)} {B:α→Option β} {E:ρ→Option β} {Q:β→Prop} {i n:Nat} {ke kh:List Nat} {ue:α→List (Nat×V)} {uh:α→List Up} {ns:List a5r} [LI b i n ke kh ue uh ns] (hF:Ok (jn A fun o=>o.elim B E) Q)
  (h1:∀(Qn:α→Prop) (K:St→Prop),(∀σ',(a0f c.H0 ns σ' fun σ'=>∃y,Qn y∧a0p (ovS e h ke kh (ue y) (uh y)) σ')→K σ')→Ok A (Fl.elim Qn fun r=>Ok (E r) Q)→M.go ⟨c.P,c.H0,K,M.kX c s,c.R⟩ a [] ⟨e,h⟩)
  (h2:∀y,Ok (B y) Q→M.go c b s (ovS e h ke kh (ue y) (uh y))):M.go c (.cut a b) s ⟨e,h⟩:=M.jnE ke kh ue uh ns hF h1 h2
theorem a0r.gj2 {α β:Type} {ms:List MOp} {its:List It} {A:Option α} {B:α→Option β} {Q:β→Prop} {ke kh:List Nat} {ue:α→List (Nat×V)} {uh:α→List Up} [GI ms ke kh ue uh] (hF:Ok (jn A B) Q)
  (h1:∀(Qn:α→Prop) (K:St→Prop),(∀σ',(∃y,Qn y∧a0p (ovS e h ke kh (ue y) (uh y)) σ')→K σ')→Ok A Qn→M.ops ⟨c.P,c.H0,K,fun _ _=>False,fun _=>False⟩ ms [] ⟨e,h⟩)
  (h2:∀y,Ok (B y) Q→M.kN c (.it its::s) (ovS e h ke kh (ue y) (uh y))):M.grpC c ms its s ⟨e,h⟩:=M.gj1 ke kh ue uh hF h1 h2
theorem a0r.gv2 {ms:List MOp} {its:List It} {x:Bool} {β:Type} {B:Bool→Option β} {Q:β→Prop} {d:Nat} {ds:List Nat} [GV ms d ds] (hF:Ok (grp x B) Q)
  (h1:∀(K:St→Prop),(∀σ',a0p ⟨put d (.bool x) (b9j ds e),h⟩ σ'→K σ')→M.ops ⟨c.P,c.H0,K,fun _ _=>False,fun _=>False⟩ ms [] ⟨e,h⟩)
  (h2:∀b,Ok (B b) Q→M.kN c (.it its::s) ⟨put d (.bool b) (b9j ds e),h⟩):M.grpC c ms its s ⟨e,h⟩:=M.gv1 d ds hF h1 h2
theorem a0r.wh2 {σ ρ:Type} {b:MC} {step:σ→Option (Fl σ ρ)} {s0:σ} {Q:ρ→Prop} {i n:Nat} {ke kh:List Nat} {ue:σ→List (Nat×V)} {uh:σ→List Up} {ns:List a5r} [LI b i n ke kh ue uh ns] (hF:Ok (loop step s0) Q)
  (h0:a0f c.H0 ns ⟨e,h⟩ fun σ'=>a0p (ovS e h ke kh (ue s0) (uh s0)) σ')
  (round:∀(x:σ) (Qn:σ→Prop) (K:St→Prop),(∀σ',(a0f c.H0 ns σ' fun σ'=>∃y,Qn y∧a0p (ovS e h ke kh (ue y) (uh y)) σ')→K σ')→Ok (step x) (Fl.elim Qn Q)→M.go ⟨c.P,c.H0,K,M.kX c s,c.R⟩ b [] (ovS e h ke kh (ue x) (uh x))) :
  M.go c (.loop b) s ⟨e,h⟩:=M.wh1 ke kh ue uh ns hF h0 round
theorem a0r.for2 {α σ ρ:Type} [Inhabited α] {b:MC} {body:Int→α→σ→Option (Fl σ ρ)} {xs:List α} {s0:σ} {Q:Fl σ ρ→Prop} {isl nsl:Nat} {ke kh:List Nat} {ue:σ→List (Nat×V)} {uh:σ→List Up} {ns:List a5r} [LI b isl nsl ke kh ue uh ns] (hF:Ok (forL body xs 0 s0) Q)
  (h0:a0f c.H0 ns ⟨e,h⟩ fun σ'=>a0p (ovS e h ke kh ((isl,.int .i64 ((0:Nat):Int))::ue s0) (uh s0)) σ')
  (round:∀(k:Nat) (a:α) (x:σ) (Qn:σ→Prop) (K:St→Prop),(∀σ',(a0f c.H0 ns σ' fun σ'=>∃y,Qn y∧a0p (ovS e h ke kh ((isl,.int .i64 ((k+1:Nat):Int))::ue y) (uh y)) σ')→K σ')→k<xs.length→xs.getD k default=a →
   Ok (body k a x) (Fl.elim Qn fun r=>Q (.ex r))→(∀{y:V},find nsl (ovS e h ke kh ((isl,.int .i64 k)::ue x) (uh x)).env=some y→y.fact)→M.go ⟨c.P,c.H0,K,M.kX c s,c.R⟩ b [] (ovS e h ke kh ((isl,.int .i64 k)::ue x) (uh x)))
  (stop:∀(x:σ) (K:St→Prop),Q (.nx x)→M.go ⟨c.P,c.H0,K,M.kX c s,c.R⟩ b [] (ovS e h ke kh ((isl,.int .i64 (xs.length:Int))::ue x) (uh x))):M.go c (.loop b) s ⟨e,h⟩ :=
 M.for1 isl ke kh ue uh ns hF h0 (fun k a x Qn K h1 h2 h3 h4 h5=>round k a x Qn K h1 h2 h3 h4 fun h=>a14 h5.1 h) stop
theorem a0r.fold2 {α σ:Type} [Inhabited α] {b:MC} {body:Int→α→σ→Option σ} {xs:List α} {s0:σ} {Q:σ→Prop} {isl nsl:Nat} {ke kh:List Nat} {ue:σ→List (Nat×V)} {uh:σ→List Up} {ns:List a5r} [LI b isl nsl ke kh ue uh ns] (hF:Ok (foldL body xs 0 s0) Q)
  (h0:a0f c.H0 ns ⟨e,h⟩ fun σ'=>a0p (ovS e h ke kh ((isl,.int .i64 ((0:Nat):Int))::ue s0) (uh s0)) σ')
  (round:∀(k:Nat) (a:α) (x:σ) (Qn:σ→Prop) (K:St→Prop),(∀σ',(a0f c.H0 ns σ' fun σ'=>∃y,Qn y∧a0p (ovS e h ke kh ((isl,.int .i64 ((k+1:Nat):Int))::ue y) (uh y)) σ')→K σ')→k<xs.length→xs.getD k default=a →
   Ok (body k a x) Qn→(∀{y:V},find nsl (ovS e h ke kh ((isl,.int .i64 k)::ue x) (uh x)).env=some y→y.fact)→M.go ⟨c.P,c.H0,K,M.kX c s,c.R⟩ b [] (ovS e h ke kh ((isl,.int .i64 k)::ue x) (uh x)))
  (stop:∀(x:σ) (K:St→Prop),Q x→M.go ⟨c.P,c.H0,K,M.kX c s,c.R⟩ b [] (ovS e h ke kh ((isl,.int .i64 (xs.length:Int))::ue x) (uh x))):M.go c (.loop b) s ⟨e,h⟩ :=
 M.fold1 isl ke kh ue uh ns hF h0 (fun k a x Qn K h1 h2 h3 h4 h5=>round k a x Qn K h1 h2 h3 h4 fun h=>a14 h5.1 h) stop
theorem g1i {P K:St→Prop} (h:∀σ',P σ'→K σ') {σ:St} (p:P σ):K σ:=h σ p
end
theorem g2b {p:Prop} [Decidable p] {A B:Prop} (h:(decide p=true→A)∧(decide p=false→B)):(p∧A)∨(¬p∧B):=by
 by_cases hp:p
 ·exact .inl ⟨hp,h.1 (wK hp)⟩
 ·exact .inr ⟨hp,h.2 (x4 hp)⟩
@[go_sem] def e1n:List (Nat×Nat)→List V→List V
 | [],l=>l
 | (a,b)::r,l=>e1n r (V.swL a b l)
@[go_sem] def e1m:List (Nat×Nat)→V→V
 | [],x=>x
 | (a,b)::r,x=>e1m r (x.sw a b)
@[go_sem] def c9i:List (Nat×Nat)→Heap→Heap
 | [],H=>H
 | (a,b)::r,H=>c9i r (swH a b H)
theorem b0r {P:Program} {f:Nat}:∀(l:List (Nat×Nat)) {args:List V} {H:Heap} {r0:V} {H1:Heap},l9 P f args H (fun r H'=>r=r0∧H'=H1)→l9 P f (e1n l args) (c9i l H) (fun r H'=>r=e1m l r0∧H'=c9i l H1)
 | [],_,_,_,_,h=>h
 | (a,b)::r,_,_,_,_,h=>b0r r (p9 a b h)
class SwA (l:outParam (List (Nat×Nat))):Prop
class SwB (l:outParam (List (Nat×Nat))):Prop
class SwC (l:outParam (List (Nat×Nat))):Prop
section
variable {P:Program} {f:Nat} {l:List (Nat×Nat)} {args:List V} {H:Heap} {r0:V} {H1:Heap}
theorem c8x [SwA l] (h:l9 P f args H (fun r H'=>r=r0∧H'=H1)):l9 P f (e1n l args) (c9i l H) (fun r H'=>r=e1m l r0∧H'=c9i l H1):=b0r l h
theorem c8w [SwB l] (h:l9 P f args H (fun r H'=>r=r0∧H'=H1)):l9 P f (e1n l args) (c9i l H) (fun r H'=>r=e1m l r0∧H'=c9i l H1):=b0r l h
theorem c8v [SwC l] (h:l9 P f args H (fun r H'=>r=r0∧H'=H1)):l9 P f (e1n l args) (c9i l H) (fun r H'=>r=e1m l r0∧H'=c9i l H1):=b0r l h
end
theorem tX {p:Prop} (x:p:=by
 replace h:=tY h
 refine tB ?_
 repeat' (first
 | (exact tZ)
 | ((first|refine a6y h ?_|refine a1i h ?_|refine d1z h ?_|refine d49 h ?_|refine c9o h ?_|refine appG h ?_|refine d4i h ?_|refine fork h ?_ ?_|refine a1j h ?_ ?_)<;>clear h<;>intro hc h)
 | (replace h:=(show c4t _ _=true∧_ from h).2)
 | (refine d3a h (fun hp=>by simpa using hp) ?_ ?_<;>first
  | (clear h;intro hc h;rw [M.lok_eq];replace h:=tY h;refine tB ?_)
  | (clear h;intro h;rw [M.lok_eq];replace h:=tY h;refine tB ?_))
 | (obtain ⟨y,hy,h⟩:=h;have hw:=WI.w hy;replace hw:=tY hw;(first|refine M.sC hw ?_|refine M.sD hw ?_);clear hw hy;refine tB ?_)
 | (obtain ⟨y,hy,h⟩:=h;have hw:=c8x (WI.w hy);replace hw:=tY hw;(first|refine M.sC hw ?_|refine M.sD hw ?_);clear hw hy;refine tB ?_)
 | (obtain ⟨y,hy,h⟩:=h;have hw:=c8w (WI.w hy);replace hw:=tY hw;(first|refine M.sC hw ?_|refine M.sD hw ?_);clear hw hy;refine tB ?_)
 | (obtain ⟨y,hy,h⟩:=h;have hw:=c8v (WI.w hy);replace hw:=tY hw;(first|refine M.sC hw ?_|refine M.sD hw ?_);clear hw hy;refine tB ?_)
 | ((first|show b3n _ (fnV _) _ _ _ _ _|show b4g _ (fnV _) _ _ _ _ _);rcases g2b h with ⟨hc,h⟩|⟨hc,h⟩<;>first|exact False.elim h|(simp only [hc];replace h:=tY h;refine tB ?_)|skip)
 | (refine M.jn2 h ?_ ?_<;>first
  | (clear h;intro Qn K hK h;replace h:=tY h;refine tB ?_)
  | (clear h;intro y h;refine M.go_un (by with_unfolding_all (conv=>lhs;whnf);try exact rfl) ?_;replace h:=tY h;refine tB ?_))
 | (refine M.jnE2 h ?_ ?_<;>first
  | (clear h;intro Qn K hK h;replace h:=tY h;refine tB ?_)
  | (clear h;intro y h;refine M.go_un (by with_unfolding_all (conv=>lhs;whnf);try exact rfl) ?_;replace h:=tY h;refine tB ?_))
 | (refine M.gv2 h ?_ ?_<;>first
  | (clear h;intro K hK;refine M.ops_un (by with_unfolding_all (conv=>lhs;whnf);try exact rfl) ?_;refine tB ?_)
  | (clear h;intro b h;replace h:=tY h;refine tB ?_))
 | (refine M.gj2 h ?_ ?_<;>first
  | (clear h;intro Qn K hK h;refine M.ops_un (by with_unfolding_all (conv=>lhs;whnf);try exact rfl) ?_;replace h:=tY h;refine tB ?_)
  | (clear h;intro y h;replace h:=tY h;refine tB ?_))
 | (refine M.wh2 h ?_ ?_<;>first
  | (clear h;intro x Qn K hK h;refine M.go_un (by with_unfolding_all (conv=>lhs;whnf);try exact rfl) ?_;replace h:=tY h;refine tB ?_)
  | (clear h;(try refine tB ?_);exact tU0;done))
 | ((first|refine M.for2 h ?_ ?_ ?_|refine M.fold2 h ?_ ?_ ?_)<;>first
  | (clear h;(try (have ha3:=ha2;clear ha2));(try (have ha2:=ha1;clear ha1));(try (have ha1:=ha;clear ha));intro k a x Qn K hK hkN ha h hl;(first|have hl:=a4q (hl rfl)|skip);have hkd:=kD hkN;have hkB:=kB hkN;have hkI:=kI (k:=k) (by (try simp only [xU,wD] at hkN);omega);clear hl;refine M.go_un (by with_unfolding_all (conv=>lhs;whnf);try exact rfl) ?_;replace h:=tY h;refine tK ha hkd hkN hkB hkI ?_)
  | (clear h;intro x K h;replace h:=And.left (And.intro h trivial);refine M.go_un (by with_unfolding_all (conv=>lhs;whnf);try exact rfl) ?_;replace h:=tY h;refine tB ?_)
  | (clear h;(try refine tB ?_);exact tU0;done))
 | (simp only [ha])|(simp only [ha1])|(simp only [ha2])|(simp only [ha3])
 | (exact absurd (hc.symm.trans (by assumption:_=true)) xE)
 | (exact absurd (hc.symm.trans (by assumption:_=false)) xE.symm)
 | (refine g1i (by assumption) ?_;first|((try refine tB ?_);refine ⟨_,h,?_⟩;(first|(exact tU0;done)|(exact tU;done)))|(exact tU;done))
 | (refine a9i (fun hc=>?_) (fun hc=>?_))
 | (refine tE ?_;(first|rw [M.lok_compU]|rw [M.lokD_compU]);refine tB ?_)
 | (refine ⟨_,f9n (by first|exact a1y (by assumption)|exact a9e (by assumption)|assumption) rfl,?_⟩;(first|rw [M.lok_compU]|rw [M.lokD_compU]);refine tB ?_)
 | (refine ⟨_,f9m (by first|exact a1y (by assumption)|exact a9e (by assumption)|assumption),?_⟩;(first|rw [M.lok_compU]|rw [M.lokD_compU]|(simp only [V.cells,z5,wL];first|rw [M.lok_comp]|rw [M.lokD_comp]));refine tB ?_)
 | (refine ⟨_,b56 (by first|exact a1y (by assumption)|exact a9e (by assumption)),?_⟩;(first|rw [M.lok_compU]|rw [M.lokD_compU]|(simp only [V.cells];first|rw [M.lok_comp]|rw [M.lokD_comp]));refine tB ?_)
 | (refine tA ?_)|fail)):p:=x
end Go.Ab
namespace Go.Ab
open Go.RowKit
@[irreducible] def cJ {k:IntKind} {n:Int}:V:=.int k n
@[irreducible] def cS {s:List UInt8}:V:=.str s
theorem e0d {k:IntKind} {n:Int}:@cJ k n=.int k n:=by unfold cJ;rfl
theorem e8l {s:List UInt8}:@cS s=.str s:=by unfold cS;rfl
@[irreducible] def e2e (n:Nat) (z:V):List V:=List.replicate n z
mutual
def zv (b:Bool):Value→V
 | .bool c=>.bool c
 | .int k n=>@cJ k n
 | .string ⟨⟨l⟩⟩=>@cS l
 | .slice _ _ _=>bif b then .nils else .sl []
 | .pointer _=>.nilp
 | .map _=>.nilm
 | .nilFunc=>.nilf
 | .nilIface=>bif b then .nili else .ifc true
 | .agg ⟨l⟩=>.agg (zvs b l)
 | _=>.any
def zvs (b:Bool):List Value→List V
 | []=>[]
 | v::r=>zv b v::zvs b r
end
def co (b:Bool):Operand→Opd
 | .tmp n=>.t n
 | .const v=>.c (zv b v)
 | .func f=>.f f
 | .global _=>.c .any
def cos (b:Bool):List Operand→List Opd
 | []=>[]
 | x::r=>co b x::cos b r
def coO:Option Operand→Option Opd
 | none=>none
 | some x=>some (co false x)
section
variable (P:Program)
def zvo (b:Bool) (t:TypeId):V:=match P.info? t with
 | some i=>match i.zero with
  | some v=>zv b v
  | none=>.any
 | none=>.any
def big (t:TypeId):Option (Nat×TypeId):=match P.underlying t with
 | some (.array n e)=>bif Nat.blt 16 n then some (n,e) else none
 | _=>none
def tz (b:Bool) (t:TypeId):V:=match big P t with
 | some (n,e)=>.agg (e2e n (zvo P b e))
 | none=>zvo P b t
def tzc (b:Bool) (t:TypeId):List V:=match big P t with
 | some (n,e)=>e2e n (zvo P b e)
 | none=>match P.info? t with
  | some i=>match i.zero with
   | some (.agg ⟨l⟩)=>zvs b l
   | some v=>[zv b v]
   | none=>[]
  | none=>[]
def tsz (t:TypeId):Nat:=match P.info? t with
 | some i=>i.size
 | none=>0
def tby (t:TypeId):Nat:=match P.info? t with
 | some i=>i.bytes
 | none=>0
def tag (t:TypeId):Option Nat:=match P.underlying t with
 | some (.struct _)|some (.array _ _)=>some (tsz P t)
 | _=>none
def tel (t:TypeId):TypeId:=match P.underlying t with
 | some (.slice e)|some (.array _ e)=>e
 | _=>0
def tkd (t:TypeId):KD:=match P.underlying t with
 | some (.map k _)=>match P.underlying k with
  | some (.int i)=>.int i
  | some .string=>.str
  | some (.array n e)=>(match P.underlying e with
   | some (.int i)=>.arr n i
   | _=>.bool)
  | _=>.bool
 | _=>.bool
def tmv (t:TypeId):TypeId:=match P.underlying t with
 | some (.map _ e)=>e
 | _=>0
def cps (b:Bool) (fs:List Field):List (Nat×Operand)→List (Nat×Nat×Opd)
 | []=>[]
 | (i,x)::r=>(match fs[i]? with
  | some f=>(f.offset,tsz P f.type,co b x)
  | none=>(0,0,co b x))::cps b fs r
def ks0 (rec:List Field→List Nat):List Field→List Nat
 | []=>[]
 | f::r=>(match P.underlying f.type with
  | some (.int _)=>[0]
  | some .string=>[1]
  | some .bool=>[2]
  | some (.struct ⟨fs⟩)=>rec fs
  | _=>[])++ks0 rec r
def ksN:Nat→List Field→List Nat
 | 0=>fun _=>[]
 | n+1=>ks0 P (ksN n)
def e8k:BinOp→Bool
 | .neq=>true
 | _=>false
def g26:BinOp→Bool
 | .add|.sub|.mul=>true
 | _=>false
def g25:BinOp→Bool
 | .quo|.rem=>true
 | _=>false
def f2b (x y:Opd):y7:=.mp .uss [x,y]
def f2j (l:List Opd):y7:=.mp .lss l
def f2f (l:List Opd):y7:=.mp .mx3 l
def f2k (b:Bool) (x:Opd):y7:=.mp (.isn b) [x]
def f2l (b:Bool) (x:Opd):y7:=.mp (.ifz b) [x]
def f2n (b:Bool) (x:Opd):y7:=.mp (.fnz b) [x]
def f2e (x:Opd):y7:=.mp .r2s [x]
def f2p (n:Nat) (x y:Opd):y7:=.mp (.cpy n) [x,y]
def f2q (f:Nat) (l:List Opd):y7:=.mp (.bnd f) l
def f2g (x:Opd):y7:=.mp .mvo [x]
def f2h (x y:Opd):y7:=.mp .mvi [x,y]
def f2s (n b:Nat) (x y:Opd):y7:=.mp (.apr n b) [x,y]
def f2t (n b:Nat) (x y:Opd):y7:=.mp (.apc n b) [x,y]
def f2d (x:Opd):y7:=.s2b x
def e3f (x:Opd):y7:=.ls2b x
def f2r (x:Opd):y7:=.b2s x
def f2i (x:Opd):y7:=.mks x
def f2m (x:Opd):y7:=.idc x
def f2c (x:Opd) (a b:Option Opd):y7:=.sls x a b
def f2o (n:Option Nat) (o:Nat) (x:Opd):y7:=.fld n o x
def f2u (k n:Nat) (x y:Opd):y7:=.aad k n x y
def lg2 (n:Int):Nat→Option Nat
 | 0=>none
 | f+1=>if n=1 then some 0 else if n % 2=0 then (lg2 (n / 2) f).map (·+1) else none
def g2c (wr:Bool) (o:BinOp) (t:TypeId) (x y:Operand):y7:=match P.underlying t with
 | some (.int k)=>match (match o,y with
   | .and,.const (.int _ n)=>(match lg2 (n+1) 64 with|some m=>bif Nat.blt m k.bits then some m else none|none=>none)
   | _,_=>none) with
  | some m=>.mask m (co false x) k
  | none=>.bin (!wr&&(g25 o||(g26 o&&kEq k .i64))) o (co false x) (co false y)
 | some .string=>.bin false o (co false x) (co false y)
 | some .bool=>.beq (e8k o) (co false x) (co false y)
 | some (.struct ⟨fs⟩)=>.eqs (e8k o) (ksN P 4 fs) (co false x) (co false y)
 | some (.slice _)=>f2k (e8k o) (co false x)
 | some (.interface _)=>f2l (e8k o) (co false x)
 | some (.func _ _ _)=>f2n (e8k o) (co false x)
 | _=>.mv (.c .any)
def wide (a b:IntKind):Bool:=kEq a b||(Nat.blt a.bits b.bits&&(!a.signed||b.signed))
def ccv (lit:Bool) (a b:TypeId) (x:Opd):y7:=match P.underlying a,P.underlying b with
 | some (.int i),some (.int j)=>.i2i (wide i j) j x
 | some (.int _),some .string=>f2e x
 | some .string,some .string=>f2m x
 | some .string,some (.slice _)=>bif lit then e3f x else f2d x
 | some (.slice _),some .string=>f2r x
 | some (.slice _),some (.slice _)=>f2i x
 | _,_=>.mv (.c .any)
def c2 (l:List (Nat×Operand)):List Operand:=l.map (·.2)
def ci (k:Nat) (ids news:List Nat):Op→y7
 | .move x|.assign x=>.mv (co (Nat.beq k 1) x)
 | .pick c a b=>.pick (co false c) (co false a) (co false b)
 | .alloc e=>.alloc (tzc P (Nat.beq k 1||Nat.beq k 8) e) (bif Nat.ble 7 k then some e else none)
 | .box _ x=>.box (co false x)
 | .build t ⟨ps⟩=>(match P.underlying t with
  | some (.struct ⟨fs⟩)=>.build (tzc P (Nat.beq k 1) t) (cps P (Nat.beq k 1) fs ps)
  | _=>.barr (tsz P (tel P t)) (tzc P false t) (cos false (c2 ps)))
 | .buildSlice t _ ⟨ps⟩=>bif Nat.beq k 2||Nat.beq k 10 then .lsl (tsz P (tel P t)) (cos (Nat.beq k 10) (c2 ps)) else bif Nat.beq k 4 then f2j (cos false (c2 ps)) else .bslice (tsz P (tel P t)) (cos (Nat.beq k 9) (c2 ps)) (Nat.beq k 3)
 | .load t x=>bif Nat.ble 100 k then .mp (.tab (k - 100)) [] else bif Nat.beq k 9 then f2g (co false x) else .ld (tag P t) (co false x)
 | .store t x y=>bif Nat.beq k 4 then f2b (co false x) (co false y) else bif Nat.beq k 9 then f2h (co false x) (co false y) else .st (tsz P t) (co false x) (co false y)
 | .nilCheck x=>.nck (co false x)
 | .binOp o t x y _=>g2c P (Nat.beq k 6) o t x y
 | .unOp .not _ x=>.not (co false x)
 | .unOp .neg t x=>.neg (match P.underlying t with|some (.int i)=>kEq i .i64|_=>false) (co false x)
 | .convert a b x=>ccv P (Nat.beq k 2) a b (co false x)
 | .makeFunc (.func f) ⟨a⟩ ⟨b⟩=>(match a with|[]=>.mkfn f (cos false b)|a=>f2q f (cos false a))
 | .makeMap t _=>.mp (.mk (tkd P t)) []
 | .lookup t x y c=>.mp (.lku (tkd P t) c (tz P false (tmv P t))) [co false x,co false y]
 | .mapUpdate t x y z|.insert t x y z=>.mp (bif Nat.beq k 4 then .ups (tkd P t) else .up (tkd P t)) [co false x,co false y,co (Nat.beq k 1) z]
 | .range _ x=>.mp .rng [co false x]
 | .next x _=>.mp .nxt [co false x]
 | .entry x=>.mp .ent [co false x]
 | .makeSlice t x y=>.mksl (tsz P (tel P t)) (tby P (tel P t)) (tz P false (tel P t)) (co false x) (co false y)
 | .slice t x lo hi _=>(match P.underlying t with
  | some .string=>f2c (co false x) (coO lo) (coO hi)
  | _=>.slc (tsz P (tel P t)) (co false x) (coO lo) (coO hi))
 | .fieldAddr t x f=>(match P.underlying t with
  | some (.struct fs)=>(match fs[f]? with|some fl=>.fad fl.offset (co false x)|none=>.mv (.c .any))
  | _=>.mv (.c .any))
 | .field t x f=>(match P.underlying t with
  | some (.struct fs)=>(match fs[f]? with|some fl=>f2o (tag P fl.type) fl.offset (co false x)|none=>.mv (.c .any))
  | _=>.mv (.c .any))
 | .indexAddr t x y=>(match P.underlying t with
  | some (.array n e)=>f2u (tsz P e) n (co false x) (co false y)
  | _=>.iad (tsz P (tel P t)) (co false x) (co false y))
 | .index t x y=>(match P.underlying t with
  | some (.array n e)=>.aix (tag P e) (tsz P e) n (co false x) (co false y)
  | _=>.idx (co false x) (co false y))
 | .extract x i=>.ext i (co false x)
 | .call ⟨.value f,⟨xs⟩,_⟩=>.call (co false f) (cos (Nat.beq k 1) xs) ids news
 | .call ⟨.builtin b,⟨xs⟩,⟨ts⟩⟩=>(match b,xs,ts with
  | .len,[x],t::_=>(match P.underlying t with
   | some (.map _ _)=>.mp .len [co false x]
   | some .string=>.len true (co false x)
   | _=>.len false (co false x))
  | .append,[x,y],t::_=>bif Nat.beq k 9 then f2s (tsz P (tel P (tel P t))) (tby P (tel P t)) (match x with|.const _=>.c .nils|_=>co false x) (co false y) else bif Nat.beq k 5 then f2t (tsz P (tel P t)) (tby P (tel P t)) (co false x) (co false y) else
    .app (tsz P (tel P t)) (tby P (tel P t)) (match x with|.const _=>.c .nils|_=>co false x) (co false y) (bif Nat.beq k 7 then some (tel P t) else none)
  | .copy,[x,y],t::_=>f2p (tsz P (tel P t)) (co false x) (co false y)
  | .delete,[x,y],t::_=>.mp (.del (tkd P t)) [co false x,co false y]
  | .max,[x,y],_=>.mm true (co false x) (co false y)
  | .min,[x,y],_=>.mm false (co false x) (co false y)
  | .max,[x,y,z],_=>f2f [co false x,co false y,co false z]
  | _,_,_=>.mv (.c .any))
 | _=>.mv (.c .any)
inductive RA where
 | k (j n:Nat)
 | c (j n:Nat) (ids news:List Nat)
 | n (j:Nat) (n:a5r)
 | v (j l:Nat)
 | u (j l:Nat) (m:List MOp)
 | w (j l t:Nat)
structure RN where
 nt:List a5r
 tw:List RA
 it:List RA
def cgd (all:List Oper):Option (Nat×Bool)→Option (Nat×Bool)
 | none=>none
 | some (j,w)=>match all[j]? with
  | some o=>(match o.dst with|some d=>some (d,w)|none=>none)
  | none=>none
def cop (all:List Oper) (k:Nat) (ids news:List Nat) (o:Oper):MOp:=⟨ci P k ids news o.op,o.dst,cgd all o.guard⟩
def cms (all:List Oper) (j:Nat) (tw:List RA):List Oper→List MOp
 | []=>[]
 | o::r=>match tw with
  | .k i n::tw'=>bif Nat.beq i j then cop P all n [] [] o::cms all (j+1) tw' r else cop P all 0 [] [] o::cms all (j+1) tw r
  | .c i n ids news::tw'=>bif Nat.beq i j then cop P all n ids news o::cms all (j+1) tw' r else cop P all 0 [] [] o::cms all (j+1) tw r
  | _=>cop P all 0 [] [] o::cms all (j+1) [] r
def ntO (j:Nat):List RA→List It
 | .n i n::rs=>bif Nat.beq i j then .nt n::ntO j rs else []
 | _=>[]
def ntR (j:Nat):List RA→List RA
 | .n i n::rs=>bif Nat.beq i j then ntR j rs else .n i n::rs
 | rs=>rs
@[irreducible] def gjt (t:Nat) (ms:List MOp):List MOp:=ms
@[irreducible] def gvt (d:Nat) (ds:List Nat) (ms:List MOp):List MOp:=ms
instance {d:Nat} {ds:List Nat} {ms:List MOp}:GV (gvt d ds ms) d ds:=⟨⟩
def gvd:List MOp→Nat
 | []=>0
 | [m]=>m.dst.getD 0
 | _::r=>gvd r
def gvs:List MOp→List Nat
 | []=>[]
 | [_]=>[]
 | m::r=>m.dst.getD 0::gvs r
def cit (j sk:Nat) (rs:List RA):List MOp→List It
 | []=>ntO j rs
 | m::r=>bif Nat.blt 0 sk then cit (j+1) (sk - 1) rs r else ntO j rs++(match ntR j rs with
  | .v i l::rs'=>bif Nat.beq i j then .grp (gvt (gvd ((m::r).take (l+1 - j))) (gvs ((m::r).take (l+1 - j))) ((m::r).take (l+1 - j)))::cit (j+1) (l - j) rs' r else .op m::cit (j+1) 0 (.v i l::rs') r
  | .u i l b::rs'=>bif Nat.beq i j then .grp b::cit (j+1) (l - j) rs' r else .op m::cit (j+1) 0 (.u i l b::rs') r
  | .w i l t::rs'=>bif Nat.beq i j then .grp (gjt t ((m::r).take (l+1 - j)))::cit (j+1) (l - j) rs' r else .op m::cit (j+1) 0 (.w i l t::rs') r
  | rs'=>.op m::cit (j+1) 0 rs' r)
def f9l (o:Oper):List Nat:=(o.after.toList.filter (Region.binds .any)).map (·.on)
def orM (ms:List Nat):List Nat→Nat→Nat
 | [],a=>a
 | x::r,a=>orM ms r (a||| (1 <<< x)||| ms.getD x 0)
def cmk (ms:List Nat):List (List Nat)→List Nat
 | []=>ms
 | a::r=>cmk (ms++[orM ms a 0]) r
def e0j (m:Nat):Nat→Nat→List Nat
 | _,0=>[]
 | i,n+1=>bif m.testBit i then i::e0j m (i+1) n else e0j m (i+1) n
def g27:MOp→Bool
 | ⟨.app ..,_,_⟩=>true
 | _=>false
def isLd:MOp→Bool
 | ⟨.ld ..,_,_⟩=>true
 | _=>false
def d9a (m:Nat):Nat→List MOp→Nat→List Nat
 | _,[],_=>[]
 | _,_,0=>[]
 | i,x::r,n+1=>bif isLd x&&!m.testBit i then (1000000+i)::d9a m (i+1) r n else d9a m (i+1) r n
def f9k (all:List MOp) (j:Nat):List MOp→List Nat→List (List Nat)
 | x::r,m::s=>(e0j m 0 j++(bif g27 x then d9a m 0 all j else []))::f9k all (j+1) r s
 | _,_=>[]
def crg (n:RN) (ops:List Oper) (draw:Bool):MC:=match draw,n.it with
 | true,_=>.regD (cms P ops 0 n.tw ops) (ops.map f9l) (f9k (cms P ops 0 n.tw ops) 0 (cms P ops 0 n.tw ops) (cmk [] (ops.map f9l)))
 | _,[]=>.reg (cms P ops 0 n.tw ops)
 | _,it=>.regI (cit 0 0 it (cms P ops 0 n.tw ops))
def fnd {α:Type} (k:Nat):List (Nat×α)→Option α
 | []=>none
 | (i,x)::r=>bif Nat.beq i k then some x else fnd k r
def fst:Code→Option Nat
 | .region i _ _=>some i
 | .seq a b=>(match fst a with|none=>fst b|x=>x)
 | .cond _ a b=>(match fst a with|none=>fst b|x=>x)
 | .block _ b=>fst b
 | .loop b=>(fst b).map (·+1000000)
 | .rangeFunc _ _ a b=>((match fst a with|none=>fst b|x=>x)).map (·+1000000)
 | _=>none
def kF (c:Code):Nat:=(fst c).getD 0
def cg (A:List (Nat×RN)) (C:List (Nat×MC)):Code→MC
 | .skip=>.skip
 | .ret=>.ret
 | .exit i=>.exit i
 | .region i ⟨ops⟩ d=>(match fnd (i+20000000) C with
  | some c=>c
  | none=>match fnd i A with
   | some n=>n.nt.foldr .note (crg P n ops d)
   | none=>crg P ⟨[],[],[]⟩ ops d)
 | .seq a b=>(match fnd (kF b+10000000) C with
  | some c=>.cut (cg A C a) c
  | none=>.seq (cg A C a) (cg A C b))
 | .cond c a b=>.cond (co false c) (cg A C a) (cg A C b)
 | .block i b=>.block i (cg A C b)
 | .loop b=>(match fnd (kF b+30000000) A with|some n=>n.nt|none=>[]).foldr .note (.loop ((fnd (kF b) C).getD .no))
 | .rangeFunc f ps a b=>(match fnd (kF b+30000000) A with|some n=>n.nt|none=>[]).foldr .note (.rngF (co false f) ps.toList (cg A C a) ((fnd (kF b) C).getD .no))
 | _=>.no
def sbc (k:Nat):Code→Option Code
 | .seq a b=>bif Nat.beq k (kF b+10000000) then some b else match sbc k a with|none=>sbc k b|x=>x
 | .cond _ a b=>(match sbc k a with|none=>sbc k b|x=>x)
 | .block _ b=>sbc k b
 | .loop b=>bif Nat.beq k (kF b) then some b else sbc k b
 | .rangeFunc _ _ a b=>bif Nat.beq k (kF b) then some b else match sbc k a with|none=>sbc k b|x=>x
 | _=>none
def sbr (k:Nat):Code→Option (List Oper)
 | .region i ops _=>bif Nat.beq k i then some ops.toList else none
 | .seq a b|.cond _ a b|.rangeFunc _ _ a b=>(match sbr k a with|none=>sbr k b|x=>x)
 | .block _ b|.loop b=>sbr k b
 | _=>none
def cT (f:Func) (A:List (Nat×RN)) (C:List (Nat×MC)):MC:=cg P A C (f.body.getD .skip)
def cK (f:Func) (A:List (Nat×RN)) (C:List (Nat×MC)) (k:Nat):MC:=(sbc k (f.body.getD .skip)).elim .no (cg P A C)
def cG (f:Func) (A:List (Nat×RN)) (r j l:Nat):List MOp:=(sbr r (f.body.getD .skip)).elim [] fun ops=>((cms P ops 0 ((fnd r A).elim [] (·.tw)) ops).drop j).take (l+1 - j)
end
@[reducible,go_sem] def rdc {α:Type} (x:α) {y:α} (h:x=y:=by conv=>lhs;reduce;(try simp only [e0d,e8l,List.append_eq,xW,wA])):α:=y
def crs (P:Program) (f:Func):List RS:=f.results.toList.map fun r=>match r with
 | .tmp t=>.t t
 | .cell a t=>.c a (tag P t)
theorem wX {α:Type} {F:Option α} {P:Program} {f:Nat} {fn:Func} {args:List V} {H:Heap} {RV:α→V} {HV:α→Heap} (hf:P.funcs[f]?=some fn) (A:List (Nat×RN):=[]) (C:List (Nat×MC):=[]) (ns:List a5r:=[]) (rids:List Nat:=[]) {mc:MC} {rs:List RS}
  (he:cT P fn A C=mc:=by conv=>lhs;reduce;(try simp only [e0d,e8l,List.append_eq,xW,wA])) (hr:crs P fn=rs:=by conv=>lhs;reduce;(try simp only [e0d]))
  (h:∀(Q:α→Prop) (Q':V→Heap→Prop),Ok F Q→(∀z,Q z→Q' (RV z) (HV z))→∀M:a0r,M.go ⟨P,H,a2c H ns rids rs Q',fun _ _=>False,a2c H ns rids rs Q'⟩ mc [] ⟨a4s 0 args,H⟩) (hb:fn.body=some (fn.body.getD .skip):=by rfl) (hc:callable P f=true:=by kernel_rfl)
  (hok:mc.ok P fn.ntmps (fn.body.getD .skip)=true:=by kernel_rfl) (hnh:mc.nh=true:=by kernel_rfl) (hrs:a7b P rs fn.results.toList=true:=by kernel_rfl) (hn:Nat.ble args.length fn.ntmps=true:=by rfl) (hg:St.good ⟨a4s 0 args,H⟩=true:=by rfl):WI F P f args H RV HV :=
 ⟨fun Q Q' h1 h2=>a0s mc ns rids rs hf (h Q Q' h1 h2) hb hc hok hnh hrs hn hg⟩
end Go.Ab
namespace Go.Ab
class NA {α:Type} (f:α→V):Prop where
 na:∀x,f x≠V.any
instance {k:IntKind}:NA (V.int k):=⟨fun _ h=>by cases h⟩
instance:NA a0a:=⟨fun _ h=>by cases h⟩
instance:NA V.bool:=⟨fun _ h=>by cases h⟩
instance:NA V.str:=⟨fun _ h=>by cases h⟩
section
variable {α:Type} {f:α→V} {l:List (List α)} {r:List α} {i:Nat}
theorem c2k [h:NA f]:a2w (r.map f)=false:=by
 match r with
 | []=>rfl
 | [x] =>
  unfold a2w
  split
  ·rename_i e
   simp at e
   exact absurd e (h.na x)
  ·rfl
 | _::_::_=>simp [a2w]
theorem c7q:(l.map (List.map f)).getD i []=(l.getD i default).map f:=by
 simp only [zE,xK]
 cases l[i]?<;>rfl
theorem d63 [NA f]:(e2c i (l.map (List.map f))=true)=(i<l.length):=by
 rw [c1v,c7q,c2k];simp
theorem d64:(e2d i ((l.map (List.map f)).set i [V.any])=true)=(i<l.length):=by
 rw [c1w]
 simp only [List.length_set,wE,eq_iff_iff,and_iff_left_iff_imp]
 intro h
 rw [zE,xJ]
 simp [h,a2w]
theorem e9f [NA f]:((l.map (List.map f)).all fun xs=>!a2w xs)=true:=by
 rw [xX]
 intro x hx
 obtain ⟨r,_,rfl⟩:=wZ.1 hx
 rw [c2k];rfl
theorem f3a:(l.map (List.map f)).map V.sl=l.map (slV f):=by
 rw [List.map_map];rfl
end
attribute [go_sem] c7q d63 d64 e9f f3a b8u V.isNils
class SC1 {α:Type} (f:α→V):Prop where
 sc:∀x,(∃k n,f x=.int k n)∨∃b,f x=.bool b
instance {k:IntKind}:SC1 (V.int k):=⟨fun n=>.inl ⟨k,n,rfl⟩⟩
instance:SC1 a0a:=⟨fun n=>.inl ⟨.u8,_,rfl⟩⟩
instance:SC1 V.bool:=⟨fun b=>.inr ⟨b,rfl⟩⟩
def agV {α:Type} (f:α→V) (x:List α):V:=.agg (x.map f)
def b1j {α:Type} (x:List α) (i:Nat) (v:α):List α:=x.take i++[v]++x.drop (i+1)
def e2g (n m:Nat):Bool:=Nat.ble n m
theorem b7r {n m:Nat}:e2g n m=true↔n≤m:=by simp [e2g]
attribute [irreducible] e2g
theorem c2d {n m:Nat}:ltb n m=true↔n<m:=by simp [ltb]
theorem d4k {α:Type} {f:α→V} {x:List α}:agV f x=.agg (x.map f):=rfl
section
variable {α:Type} {f:α→V} {x:List α} {off n k:Nat} {K:V→Prop} {A:Prop}
theorem c25 [Inhabited α]:part none off (x.map f) K=(ltb off x.length=true∧K (f (x.getD off default))):=by
 show (match (x.map f).drop off with|c::_=>K c|[]=>False)=_
 by_cases h:off<x.length
 ·have hd:=e00 (f:=f) (a:=x.getD off default) rfl h
  rw [Nat.mul_one] at hd
  rw [hd]
  simp [ltb,h]
 ·rw [List.drop_eq_nil_of_le (by rw [wE];omega)]
  simp [ltb,h]
theorem d6c [Inhabited α]:part none (off*1) (x.map f) K=(ltb off x.length=true∧K (f (x.getD off default))):=by rw [Nat.mul_one];exact c25
theorem d6b [Inhabited α]:part none off (V.cells (.agg (x.map f))) K=(ltb off x.length=true∧K (f (x.getD off default))):=c25
theorem d6a [Inhabited α]:part none off (V.cells (agV f x)) K=(ltb off x.length=true∧K (f (x.getD off default))):=c25
theorem e4n:part (some n) 0 (x.map f) K=(e2g n x.length=true∧K (.agg ((x.take n).map f))):=by
 show (bif Nat.ble (0+n) (x.map f).length then K (.agg (((x.map f).drop 0).take n)) else False)=_
 rw [b7r]
 by_cases h:n≤x.length
 ·have:Nat.ble (0+n) (x.map f).length=true:=by rw [Nat.ble_eq,wE];omega
  rw [this];simp [h,List.map_take]
 ·have:Nat.ble (0+n) (x.map f).length=false:=by
   cases hb:Nat.ble (0+n) (x.map f).length with
   | false=>rfl
   | true=>rw [Nat.ble_eq,wE] at hb;omega
  rw [this];simp [h]
theorem g2f:(bif Nat.ble (off+1) (x.map f).length then A else False)=(ltb off x.length=true∧A):=by
 by_cases h:off<x.length
 ·have:Nat.ble (off+1) (x.map f).length=true:=by rw [Nat.ble_eq,wE];omega
  rw [this];simp [ltb,h]
 ·have:Nat.ble (off+1) (x.map f).length=false:=by
   cases hb:Nat.ble (off+1) (x.map f).length with
   | false=>rfl
   | true=>rw [Nat.ble_eq,wE] at hb;omega
  rw [this];simp [ltb,h]
theorem f0e {v:α} {y:V} (h:y=f v):setCells (x.map f) off [y]=(b1j x off v).map f:=by
 subst h
 unfold setCells b1j
 simp [List.map_take,List.map_drop]
theorem e3t {x:List Bool} {b:Bool}:setCells (x.map V.bool) off [V.bool b]=(b1j x off b).map V.bool:=f0e rfl
theorem e3s {x:List Int} {q:IntKind} {b:Int}:setCells (x.map (V.int q)) off [V.int q b]=(b1j x off b).map (V.int q):=f0e rfl
theorem d56 {x:List Bool} {b:Bool}:setCells (x.map V.bool) off (V.bool b).cells=(b1j x off b).map V.bool:=f0e rfl
theorem d55 {x:List Int} {q:IntKind} {b:Int}:setCells (x.map (V.int q)) off (V.int q b).cells=(b1j x off b).map (V.int q):=f0e rfl
theorem e7b {X:List (List α)} {i:Nat} {P:List V→Prop}:(∃cs,(X.map (agV f))[i]?=some (V.agg cs)∧off+1≤k∧P cs)=(ltb i X.length=true∧ltb off k=true∧P ((X.getD i default).map f)):=by
 refine propext ⟨fun ⟨cs,h1,h2,h3⟩=>?_,fun ⟨h1,h2,h3⟩=>?_⟩
 ·rw [xK] at h1
  cases hl:X[i]? with
  | none=>rw [hl] at h1;cases h1
  | some a =>
   rw [hl] at h1;cases h1
   have e:X.getD i default=a:=by simp [List.getD,hl]
   have:=(zG.1 hl).1
   exact ⟨c2d.2 this,c2d.2 (by omega),by rw [e];exact h3⟩
 ·have h1:=c2d.1 h1
  have h2:=c2d.1 h2
  refine ⟨_,?_,h2,h3⟩
  rw [xK,getD_lt h1];rfl
theorem d46:((V.cells (agV f x)).length=k)=(eqn x.length k=true):=by
 rw [c1c,d4k];simp [V.cells]
theorem d99:((V.cells (.agg (x.map f))).length=k)=(eqn x.length k=true):=d46
end
section
variable {M:a0r} {c:Cfg} {d:Option Nat} {r:List MOp} {s:List Fr} {e e0:List (Nat×V)} {h h0:Heap} {anc:List (List Nat)} {u t m:List Nat} {log:List Ent}
theorem a0r.ex_agU {α:Type} {f:α→V} {X:List (List α)} {i off k id:Nat} {g:List V→a03} :
  (∃cs,(X.map (agV f))[i]?=some (V.agg cs)∧off+1≤k∧a6w (M.lok c d r s e h) id (g cs))=(ltb i X.length=true∧ltb off k=true∧a6w (M.aft c d r s e h) id (g ((X.getD i default).map f))):=by
 rw [e7b,M.lok_compU]
theorem a0r.ex_agUD {α:Type} {f:α→V} {X:List (List α)} {i off k id:Nat} {g:List V→a03} :
  (∃cs,(X.map (agV f))[i]?=some (V.agg cs)∧off+1≤k∧a6w (M.lokD c anc e0 h0 d u t m r log s e h) id (g cs))=(ltb i X.length=true∧ltb off k=true∧a6w (M.aftD c anc e0 h0 d u t m r log s e h) id (g ((X.getD i default).map f))):=by
 rw [e7b,M.lokD_compU]
end
theorem e4k {n:Nat} {b:Bool}:e2e n (.bool b)=(List.replicate n b).map V.bool:=by unfold e2e;exact List.map_replicate.symm
theorem e4j {n:Nat} {k:IntKind} {b:Int}:e2e n (.int k b)=(List.replicate n b).map (V.int k):=by unfold e2e;exact List.map_replicate.symm
theorem e4i {α:Type} {f:α→V} {x:List α} {n:Nat}:List.replicate n (V.agg (x.map f))=(List.replicate n x).map (agV f):=by rw [List.map_replicate];rfl
section
variable {α:Type} {f:α→V} [hf:SC1 f] {x:List α} {n a b k m:Nat} {y:V} {l:List Nat} {xs:List V}
theorem e73:V.hasL n (x.map f)=false:=by
 induction x with
 | nil=>rfl
 | cons z r ih=>rcases hf.sc z with ⟨q,w,e⟩|⟨w,e⟩<;>simp [V.hasL,e,V.has,ih]
theorem c7o:V.withinL l (x.map f)=true:=by
 induction x with
 | nil=>rfl
 | cons z r ih=>rcases hf.sc z with ⟨q,w,e⟩|⟨w,e⟩<;>simp [V.withinL,e,V.within,ih]
theorem e71:V.renL a b (x.map f)=x.map f:=by
 induction x with
 | nil=>rfl
 | cons z r ih=>rcases hf.sc z with ⟨q,w,e⟩|⟨w,e⟩<;>simp [V.renL,e,V.ren,ih]
theorem f5k:V.swL a b (x.map f)=x.map f:=by
 induction x with
 | nil=>rfl
 | cons z r ih=>rcases hf.sc z with ⟨q,w,e⟩|⟨w,e⟩<;>simp [V.swL,e,V.sw,ih]
theorem d9q:V.sealL n xs (x.map f)=x.map f:=by
 induction x with
 | nil=>rfl
 | cons z r ih=>rcases hf.sc z with ⟨q,w,e⟩|⟨w,e⟩<;>simp [V.sealL,e,V.shut,ih]
theorem c7p:V.sealOKs n k m (x.map f)=True:=by
 induction x with
 | nil=>rfl
 | cons z r ih=>rcases hf.sc z with ⟨q,w,e⟩|⟨w,e⟩<;>simp [V.sealOKs,e,V.sealOK,ih]
theorem e70:V.shmL n y (x.map f)=x.map f:=by
 induction x with
 | nil=>rfl
 | cons z r ih=>rcases hf.sc z with ⟨q,w,e⟩|⟨w,e⟩<;>simp [V.shmL,e,V.shm,ih]
theorem d2f:V.unnilL (x.map f)=x.map f:=by
 induction x with
 | nil=>rfl
 | cons z r ih=>rcases hf.sc z with ⟨q,w,e⟩|⟨w,e⟩<;>simp [V.unnilL,e,V.unnil,ih]
theorem d9r:V.oidsL (x.map f)=[]:=by
 induction x with
 | nil=>rfl
 | cons z r ih=>rcases hf.sc z with ⟨q,w,e⟩|⟨w,e⟩<;>simp [V.oidsL,e,V.oids,ih]
theorem e72:(x.map f).all V.one=true:=by
 rw [xX]
 intro z hz
 obtain ⟨w,_,rfl⟩:=wZ.1 hz
 rcases hf.sc w with ⟨q,v,e⟩|⟨v,e⟩<;>rw [e]<;>rfl
theorem f5l:(x.map f).all V.sc=true:=by
 rw [xX]
 intro z hz
 obtain ⟨w,_,rfl⟩:=wZ.1 hz
 rcases hf.sc w with ⟨q,v,e⟩|⟨v,e⟩<;>rw [e]<;>rfl
end
theorem e6q {x:List Int}:KD.is (.arr 257 .i64) (.agg (x.map (V.int .i64)))=eqn x.length 257:=by
 have h:(x.map (V.int .i64)).all (KD.isI .i64)=true:=by
  rw [xX]
  intro z hz
  obtain ⟨w,_,rfl⟩:=wZ.1 hz
  rfl
 unfold eqn
 simp only [KD.is,h,Bool.and_true,wE]
 rfl
theorem f2y {n:Nat}:((n:Int)≤9223372036854775807)=(a1o n=true):=propext (by rw [a9r];omega)
theorem d2v {a b:Nat} {A:Prop}:(bif eqn a b then A else False)=(eqn a b=true∧A):=by cases eqn a b<;>simp
theorem c2f:∀a b:List Int,c7a (a.map (V.int .i64)) (b.map (V.int .i64))=decide (a=b)
 | [],[]=>rfl
 | [],_::_=>by simp [c7a]
 | _::_,[]=>by simp [c7a]
 | x::r,y::s=>by simp [c7a,c2f r s]
theorem d48 (a b:List Int):keq (agV (V.int .i64) a) (agV (V.int .i64) b)=decide (a=b):=c2f a b
theorem e4z {β:Type} {g:β→V} {k:List Int} {l:List (List Int×β)}:b5w (.agg (k.map (V.int .i64))) (l.map (kvV (agV (V.int .i64)) g))=(b5x k l).map g:=b03 d48 k l
theorem e4w {β:Type} {g:β→V} {k:List Int} {v:β} {l:List (List Int×β)}:(c5l k v l).map (kvV (agV (V.int .i64)) g)=b2v (.agg (k.map (V.int .i64))) (g v) (l.map (kvV (agV (V.int .i64)) g)):=a9z d48 k v l
theorem g1u {i n:Nat}:V.ptr i (n*1)=V.ptr i n:=by rw [Nat.mul_one]
theorem f5o {x:V} {n:Nat}:V.eptr x (n*1)=V.eptr x n:=by rw [Nat.mul_one]
theorem f4y {i k j n:Nat}:V.optr i k j (n*1)=V.optr i k j n:=by rw [Nat.mul_one]
attribute [go_sem ↓ high] d6c
attribute [go_sem ↓] c25 d6b d6a e4n f2y g2f a0r.ex_agU a0r.ex_agUD d46 d99
attribute [go_sem ↓ high] e3t e3s d56 d55
attribute [go_sem ↓ high] e6q
attribute [go_sem] d4k e4k e4j e4i e73 c7o e71 f5k d9q c7p e70 d2f d9r e72 f5l d2v e4z e4w wR g1u f5o f4y
end Go.Ab
namespace Go.Ab
open Go.RowKit
mutual
def V.lf (R:Heap):V→Bool
 | .bool _|.int _ _|.str _|.nils|.nilp|.nilm|.nilf|.nili|.ifc _|.sl []=>true
 | .osl id _ _ _=>a0t id R
 | .agg cs|.tup cs=>V.lfL R cs
 | _=>false
def V.lfL (R:Heap):List V→Bool
 | []=>true
 | x::r=>x.lf R&&V.lfL R r
end
theorem V.lfL_iff {R:Heap}:∀{l:List V},V.lfL R l=true→∀x∈l,x.lf R=true
 | y::r,h,x,hx=>by
  simp only [V.lfL,xY] at h
  rcases wO.1 hx with rfl|hx
  ·exact h.1
  ·exact V.lfL_iff h.2 x hx
theorem Rd.lf {S S':Nat→Prop} {w:World} {R:Heap} {v:Value} {x:V} (h:Rd S w v x):x.lf R=true→Rd S' w v x:=by
 induction h with
 | agg vs cs hl hr ih=>exact fun hx=>.agg vs cs hl fun i c hc=>ih i c hc (V.lfL_iff (by simpa only [V.lf] using hx) c (zZ hc))
 | bool b=>exact fun _=>.bool b
 | int k n h=>exact fun _=>.int k n h
 | str s h=>exact fun _=>.str s h
 | nils=>exact fun _=>.nils
 | nilsl=>exact fun _=>.nilsl
 | slz a cap=>exact fun _=>.slz a cap
 | nilp=>exact fun _=>.nilp
 | nilm=>exact fun _=>.nilm
 | nilf=>exact fun _=>.nilf
 | nili=>exact fun _=>.nili
 | ifcn=>exact fun _=>.ifcn
 | ifcs t p=>exact fun _=>.ifcs t p
 | sl g o len cap k cur e fz xs h1 h2 h3 h4 h5 h6 h7 h8 _ =>
  intro hx
  cases xs with
  | nil=>cases h3;exact .slz _ _
  | cons a r=>simp [V.lf] at hx
 | _=>intro hx;simp [V.lf] at hx
theorem VR.lf {g g':Gh} {w:World} {R:Heap} {v:Value} {x:V} (h:VR g w v x) (ha:∀id,a0t id R=true→g.agree g' id):x.lf R=true→VR g' w v x:=by
 induction h with
 | rd h=>exact fun hx=>.rd (h.lf hx)
 | agg vs cs hl hr ih=>exact fun hx=>.agg vs cs hl fun i c hc=>ih i c hc (V.lfL_iff (by simpa only [V.lf] using hx) c (zZ hc))
 | tup vs cs hl hr ih=>exact fun hx=>.tup vs cs hl fun i c hc=>ih i c hc (V.lfL_iff (by simpa only [V.lf] using hx) c (zZ hc))
 | oslnil id k lo h=>exact fun hx=>.oslnil id k lo ((ha id (by simpa only [V.lf] using hx)).2.2.2.2 h)
 | osl id k lo len o c h ho hc hl hm =>
  intro hx
  obtain ⟨h1,h2,h3,h4⟩:=ha id (by simpa only [V.lf] using hx)
  rw [←h1]
  exact .osl id k lo len o c (fun h'=>h (h4.1 h')) (by rw [h2];exact ho) (by rw [h3];exact hc) hl hm
 | _=>intro hx;simp [V.lf] at hx
section
variable {P:Program}
def V.ib:V→Bool
 | .int _ _|.bool _=>true
 | _=>false
def c7b (env:List (Nat×V)):List Nat→List (Nat×V)
 | []=>[]
 | t::r=>match find t env with
  | some x=>bif x.ib then (t,x)::c7b env r else c7b env r
  | none=>c7b env r
theorem VR.ib {g g':Gh} {w:World} {v:Value} {x:V} (h:VR g w v x) (hi:x.ib=true):VR g' w v x:=by
 cases h<;>first|(simp [V.ib] at hi;done)|skip
 rename_i h
 cases h<;>first|(simp [V.ib] at hi;done)|skip
 ·exact .rd (.bool _)
 ·rename_i hr;exact .rd (.int _ _ hr)
theorem Rd.ib {S S':Nat→Prop} {w:World} {v:Value} {x:V} (h:Rd S w v x) (hi:x.ib=true):Rd S' w v x:=by
 cases h<;>first|(simp [V.ib] at hi;done)|skip
 ·exact .bool _
 ·rename_i hr;exact .int _ _ hr
def Cov (P:Program) (c:Ctx) (z:Nat):Prop:=(∃o,find z c.H0=some o)∧(∀b,c.g0.S b∨c.gp.S b→(c.gp.base z).testBit b=true)∧∀w',a1l c.gp.S c.wp w'→e9m P w'
theorem Cov.le {c c':Ctx} {z:Nat} (h:Cov P c z) (hl:c.le c'):Cov P c' z:=by
 unfold Cov at *
 rw [hl.H0,hl.g0,hl.gp,hl.wp];exact h
def f6f (xs:List V):Prop:=∀x∈xs,∀c∈x.cells,c.ib=true
def g1j (s z id k:Nat) (keep:List Nat) (σ:St) (K:St→Prop):Prop :=
 match get s σ.env with
 | .nsl z' k' xs=>bif Nat.beq z' z&&Nat.beq k' k&&!Nat.beq id z then f6f xs∧K ⟨(s,.osl id k 0 xs.length)::c7b σ.env keep,[(id,.arr k xs none)]⟩ else False
 | _=>False
theorem f5d {α:Type} {f:α→V} {m p:Nat} {o:Option (List α)}:b6m true m p (o.map (slV f))=.tup [.nsl m p ((o.getD []).map f),.bool o.isSome]:=by cases o<;>rfl
attribute [go_sem] a0r.go_hnote f5d V.isNilS g1j c7b V.ib
end
end Go.Ab
namespace Go.Ab
def Le {α:Type} (a b:Option α):Prop:=∀r,a=some r→b=some r
section
variable {α β σ ρ:Type}
theorem Le.refl {a:Option α}:Le a a:=fun _ h=>h
theorem Le.non {b:Option α}:Le none b:=fun _ h=>by cases h
theorem Le.bind {a b:Option α} {f g:α→Option β} (h:Le a b) (k:∀y,Le (f y) (g y)):Le (a.bind f) (b.bind g):=fun r hr=>by
 cases ha:a with
 | none=>rw [ha] at hr;cases hr
 | some y=>rw [ha] at hr;rw [h y ha];exact k y r hr
theorem Le.jn {a b:Option α} {f g:α→Option β} (h:Le a b) (k:∀y,Le (f y) (g y)):Le (Go.Ab.jn a f) (Go.Ab.jn b g):=Le.bind h k
theorem Le.grp {x:α} {f g:α→Option β} (k:∀y,Le (f y) (g y)):Le (Go.Ab.grp x f) (Go.Ab.grp x g):=k x
theorem Le.chk {c:Bool} {a b:Option α} (h:Le a b):Le (Go.Ab.chk c a) (Go.Ab.chk c b):=by
 cases c
 ·exact Le.non
 ·exact h
theorem Le.cond {c:Bool} {a b a' b':Option α} (h:Le a b) (h':Le a' b'):Le (bif c then a else a') (bif c then b else b'):=by
 cases c
 ·exact h'
 ·exact h
theorem Le.fl {o:Fl σ ρ} {f g:σ→Option β} {f' g':ρ→Option β} (h:∀s,Le (f s) (g s)) (h':∀s,Le (f' s) (g' s)):Le (Fl.elim f f' o) (Fl.elim g g' o):=by
 cases o
 ·exact h _
 ·exact h' _
theorem Le.sum {o:Sum σ ρ} {f g:σ→Option β} {f' g':ρ→Option β} (h:∀s,Le (f s) (g s)) (h':∀s,Le (f' s) (g' s)):Le (Sum.elim f f' o) (Sum.elim g g' o):=by
 cases o
 ·exact h _
 ·exact h' _
def f4w {γ:Type} (f:List α→Option γ):List α→Option γ
 | []=>f []
 | [x]=>f [x]
 | _=>none
theorem Le.perm {γ:Type} {f g:List α→Option γ} {l:List α} (h:∀l,Le (f l) (g l)):Le (f4w f l) (d69 g l):=by
 intro r hr
 cases l with
 | nil=>exact c22 fun l hl=>by rw [hl.eq_nil];exact h _ _ hr
 | cons x t =>
  cases t with
  | nil=>exact c22 fun l hl=>by rw [List.perm_singleton.1 hl];exact h _ _ hr
  | cons y t=>cases hr
def g2h (c:Bool) (_ b:Option α):Option α:=bif c then none else b
theorem Le.amb {c:Bool} {a a' b b':Option α} (h:Le b' b):Le (g2h c a' b') (amb c a b):=by
 intro r hr
 cases c with
 | true=>cases hr
 | false=>rw [e9e (by simp)];exact h _ hr
def pwB:List Int→Bool
 | []=>true
 | a::r=>r.all (fun b=>decide (a≤b))&&pwB r
theorem c6e:∀{l:List Int},pwB l=true→l.Pairwise fun a b=>decide (a≤b)=true
 | [],_=>List.Pairwise.nil
 | a::r,h=>by
  simp only [pwB,xY,xX] at h
  exact List.Pairwise.cons h.1 (c6e h.2)
def d3v (xs:List Int):Option (List Int):=bif pwB xs&&decide (xs.length<4611686018427387904) then some xs else none
theorem Le.sort {xs:List Int}:Le (d3v xs) (e3q xs):=by
 intro r hr
 unfold d3v at hr
 cases hc:pwB xs&&decide (xs.length<4611686018427387904) with
 | false=>rw [hc] at hr;cases hr
 | true =>
  rw [hc] at hr
  cases hr
  rw [xY,xG] at hc
  unfold e3q
  rw [if_pos hc.2,List.mergeSort_of_pairwise (c6e hc.1)]
theorem Le.forL {f g:Int→α→σ→Option (Fl σ ρ)} (h:∀k a s,Le (f k a s) (g k a s)):∀(xs:List α) (k:Int) (s:σ),Le (Go.Ab.forL f xs k s) (Go.Ab.forL g xs k s)
 | [],k,s=>Le.refl
 | x::r,k,s=>by
  simp only [Go.Ab.forL]
  exact Le.bind (h k x s) fun o=>Le.fl (fun s=>Le.forL h r (k+1) s) fun _=>Le.refl
theorem Le.foldL {f g:Int→α→σ→Option σ} (h:∀k a s,Le (f k a s) (g k a s)):∀(xs:List α) (k:Int) (s:σ),Le (Go.Ab.foldL f xs k s) (Go.Ab.foldL g xs k s)
 | [],k,s=>Le.refl
 | x::r,k,s=>by
  simp only [Go.Ab.foldL]
  exact Le.bind (h k x s) fun s=>Le.foldL h r (k+1) s
theorem Le.iter {f g:σ→Option (Fl σ ρ)} (h:∀s,Le (f s) (g s)):∀(n:Nat) (s:σ),Le (Go.Ab.iter f n s) (Go.Ab.iter g n s)
 | 0,s=>Le.non
 | n+1,s=>by
  simp only [Go.Ab.iter]
  exact Le.bind (h s) fun o=>Le.fl (fun s=>Le.iter h n s) fun _=>Le.refl
theorem Le.loop {f g:σ→Option (Fl σ ρ)} {n:Nat} {s:σ} (h:∀s,Le (f s) (g s)):Le (Go.Ab.iter f n s) (Go.Ab.loop g s):=fun r hr =>
 a5b.2 ⟨n,Le.iter h n s r hr⟩
theorem Le.lim {f:Nat→Option α} {c:Option α} {n:Nat} (h:∀m,n≤m→Le c (f m)):Le c (Go.Ab.lim f):=fun r hr =>
 b6n ⟨n,fun m hm=>h m hm r hr⟩
end
end Go.Ab