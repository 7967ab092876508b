/- Plain functions that may be run: a copy of each function whose loops have a bound; what the copy answers, the function answers. -/
import Derived.Test.YtnaeedamiaoipaaGreatDoorAbFun
import Derived.Test.YtnaeedamiaoipaaGreatDoorAbSort
set_option linter.all false
set_option linter.unusedVariables false
namespace Go.Ab
def Le {α:Type} (a b:Option α):Prop:=∀r,a=some r→b=some r
section
variable {α β σ ρ:Type}
theorem Le.refl {a:Option α}:Le a a:=fun _ h=>h
theorem Le.non {b:Option α}:Le none b:=fun _ h=>by cases h
theorem Le.bind {a b:Option α} {f g:α→Option β} (h:Le a b) (k:∀y,Le (f y) (g y)):Le (a.bind f) (b.bind g):=fun r hr=>by
 cases ha:a with
 | none=>rw [ha] at hr;cases hr
 | some y=>rw [ha] at hr;rw [h y ha];exact k y r hr
theorem Le.jn {a b:Option α} {f g:α→Option β} (h:Le a b) (k:∀y,Le (f y) (g y)):Le (Go.Ab.jn a f) (Go.Ab.jn b g):=Le.bind h k
theorem Le.grp {x:α} {f g:α→Option β} (k:∀y,Le (f y) (g y)):Le (Go.Ab.grp x f) (Go.Ab.grp x g):=k x
theorem Le.chk {c:Bool} {a b:Option α} (h:Le a b):Le (Go.Ab.chk c a) (Go.Ab.chk c b):=by
 cases c
 ·exact Le.non
 ·exact h
theorem Le.cond {c:Bool} {a b a' b':Option α} (h:Le a b) (h':Le a' b'):Le (bif c then a else a') (bif c then b else b'):=by
 cases c
 ·exact h'
 ·exact h
theorem Le.fl {o:Fl σ ρ} {f g:σ→Option β} {f' g':ρ→Option β} (h:∀s,Le (f s) (g s)) (h':∀s,Le (f' s) (g' s)):Le (Fl.elim f f' o) (Fl.elim g g' o):=by
 cases o
 ·exact h _
 ·exact h' _
theorem Le.sum {o:Sum σ ρ} {f g:σ→Option β} {f' g':ρ→Option β} (h:∀s,Le (f s) (g s)) (h':∀s,Le (f' s) (g' s)):Le (Sum.elim f f' o) (Sum.elim g g' o):=by
 cases o
 ·exact h _
 ·exact h' _
def permC {γ:Type} (f:List α→Option γ):List α→Option γ
 | []=>f []
 | [x]=>f [x]
 | _=>none
theorem Le.perm {γ:Type} {f g:List α→Option γ} {l:List α} (h:∀l,Le (f l) (g l)):Le (permC f l) (permL g l):=by
 intro r hr
 cases l with
 | nil=>exact permL_of fun l hl=>by rw [hl.eq_nil];exact h _ _ hr
 | cons x t =>
  cases t with
  | nil=>exact permL_of fun l hl=>by rw [List.perm_singleton.1 hl];exact h _ _ hr
  | cons y t=>cases hr
def ambC (c:Bool) (_ b:Option α):Option α:=bif c then none else b
theorem Le.amb {c:Bool} {a a' b b':Option α} (h:Le b' b):Le (ambC c a' b') (amb c a b):=by
 intro r hr
 cases c with
 | true=>cases hr
 | false=>rw [amb_eq (by simp)];exact h _ hr
def pwB:List Int→Bool
 | []=>true
 | a::r=>r.all (fun b=>decide (a≤b))&&pwB r
theorem pwB_iff:∀{l:List Int},pwB l=true→l.Pairwise fun a b=>decide (a≤b)=true
 | [],_=>List.Pairwise.nil
 | a::r,h=>by
  simp only [pwB,Bool.and_eq_true,List.all_eq_true] at h
  exact List.Pairwise.cons h.1 (pwB_iff h.2)
def sortIC (xs:List Int):Option (List Int):=bif pwB xs&&decide (xs.length<4611686018427387904) then some xs else none
theorem Le.sort {xs:List Int}:Le (sortIC xs) (sortI xs):=by
 intro r hr
 unfold sortIC at hr
 cases hc:pwB xs&&decide (xs.length<4611686018427387904) with
 | false=>rw [hc] at hr;cases hr
 | true =>
  rw [hc] at hr
  cases hr
  rw [Bool.and_eq_true,decide_eq_true_eq] at hc
  unfold sortI
  rw [if_pos hc.2,List.mergeSort_of_pairwise (pwB_iff hc.1)]
theorem Le.forL {f g:Int→α→σ→Option (Fl σ ρ)} (h:∀k a s,Le (f k a s) (g k a s)):∀(xs:List α) (k:Int) (s:σ),Le (Go.Ab.forL f xs k s) (Go.Ab.forL g xs k s)
 | [],k,s=>Le.refl
 | x::r,k,s=>by
  simp only [Go.Ab.forL]
  exact Le.bind (h k x s) fun o=>Le.fl (fun s=>Le.forL h r (k+1) s) fun _=>Le.refl
theorem Le.foldL {f g:Int→α→σ→Option σ} (h:∀k a s,Le (f k a s) (g k a s)):∀(xs:List α) (k:Int) (s:σ),Le (Go.Ab.foldL f xs k s) (Go.Ab.foldL g xs k s)
 | [],k,s=>Le.refl
 | x::r,k,s=>by
  simp only [Go.Ab.foldL]
  exact Le.bind (h k x s) fun s=>Le.foldL h r (k+1) s
theorem Le.iter {f g:σ→Option (Fl σ ρ)} (h:∀s,Le (f s) (g s)):∀(n:Nat) (s:σ),Le (Go.Ab.iter f n s) (Go.Ab.iter g n s)
 | 0,s=>Le.non
 | n+1,s=>by
  simp only [Go.Ab.iter]
  exact Le.bind (h s) fun o=>Le.fl (fun s=>Le.iter h n s) fun _=>Le.refl
theorem Le.loop {f g:σ→Option (Fl σ ρ)} {n:Nat} {s:σ} (h:∀s,Le (f s) (g s)):Le (Go.Ab.iter f n s) (Go.Ab.loop g s):=fun r hr =>
 loop_iter.2 ⟨n,Le.iter h n s r hr⟩
end
end Go.Ab
