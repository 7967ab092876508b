/- Plain functions with possible failure: rules to show what they answer. -/
import Derived.Test.YtnaeedamiaoipaaGreatDoorAbFun
set_option linter.all false
set_option linter.unusedVariables false
namespace Go.Ab
section
variable {α β σ ρ:Type} {Q:β→Prop} {P:α→Prop}
theorem Ok.bind {o:Option α} {f:α→Option β} (h:Ok o P) (k:∀y,P y→Ok (f y) Q):Ok (o.bind f) Q:=by
 obtain ⟨y,rfl,hy⟩:=h;exact k y hy
theorem Ok.jn {o:Option α} {f:α→Option β} (h:Ok o P) (k:∀y,P y→Ok (f y) Q):Ok (jn o f) Q:=Ok.bind h k
theorem Ok.grp {x:α} {f:α→Option β} (h:Ok (f x) Q):Ok (grp x f) Q:=h
theorem Ok.chk {b:Bool} {o:Option β} (hb:b=true) (h:Ok o Q):Ok (chk b o) Q:=by rw [Ok_chk];exact ⟨hb,h⟩
theorem Ok.ret {x:β} (h:Q x):Ok (some x) Q:=⟨x,rfl,h⟩
theorem Ok.mono {o:Option β} {Q':β→Prop} (h:Ok o Q') (k:∀y,Q' y→Q y):Ok o Q:=by
 obtain ⟨y,e,hy⟩:=h;exact ⟨y,e,k y hy⟩
theorem Ok.ite {b:Bool} {x y:Option β} (h1:b=true→Ok x Q) (h2:b=false→Ok y Q):Ok (bif b then x else y) Q:=by
 rw [Ok_ite];exact ⟨h1,h2⟩
theorem Ok.eq {o:Option β} {x:β} (h:Ok o (·=x)):o=some x:=by obtain ⟨y,e,rfl⟩:=h;exact e
theorem Ok.of {o:Option β} {x:β} (h:o=some x) (hq:Q x):Ok o Q:=⟨x,h,hq⟩
theorem Ok.val {o:Option β} {x:β} (h:Ok o Q) (e:o=some x):Q x:=by obtain ⟨y,e',h⟩:=h;rw [e] at e';cases e';exact h
theorem Ok.foldI {body:Int→α→σ→Option σ} {Q:σ→Prop} {all:List α} (I:List α→σ→Prop):∀(xs pre:List α) (k:Int) (s:σ),all=pre++xs→k=pre.length→I pre s →
  (∀(pre:List α) (x:α) (r:List α) (s:σ),all=pre++x::r→I pre s→Ok (body pre.length x s) (I (pre++[x])))→(∀s,I all s→Q s)→Ok (foldL body xs k s) Q
 | [],pre,k,s,hw,hk,h,step,fin=>by
  simp only [foldL];exact ⟨s,rfl,fin s (by rw [hw];simpa using h)⟩
 | x::r,pre,k,s,hw,hk,h,step,fin=>by
  simp only [foldL]
  refine Ok.bind (by rw [hk];exact step pre x r s hw h) fun y hy=>?_
  exact Ok.foldI I r (pre++[x]) (k+1) y (by simp [hw]) (by simp [hk]) hy step fin
theorem Ok.fold {body:Int→α→σ→Option σ} {Q:σ→Prop} (I:σ→Prop):∀(xs:List α) (k:Int) (s:σ),I s →
  (∀k x s,x∈xs→I s→Ok (body k x s) I)→(∀s,I s→Q s)→Ok (foldL body xs k s) Q
 | [],k,s,h,step,fin=>⟨s,rfl,fin s h⟩
 | x::r,k,s,h,step,fin=>by
  simp only [foldL]
  exact Ok.bind (step k x s (by simp) h) fun y hy=>Ok.fold I r (k+1) y hy (fun k x s hx=>step k x s (by simp [hx])) fin
theorem Ok.for {body:Int→α→σ→Option (Fl σ ρ)} {Q:Fl σ ρ→Prop} (I:σ→Prop):∀(xs:List α) (k:Int) (s:σ),I s →
  (∀k x s,x∈xs→I s→Ok (body k x s) (Fl.elim I fun r=>Q (.ex r)))→(∀s,I s→Q (.nx s))→Ok (forL body xs k s) Q
 | [],k,s,h,step,fin=>⟨.nx s,rfl,fin s h⟩
 | x::r,k,s,h,step,fin=>by
  simp only [forL]
  refine Ok.bind (step k x s (by simp) h) fun y hy=>?_
  cases y with
  | nx s'=>exact Ok.for I r (k+1) s' hy (fun k x s hx=>step k x s (by simp [hx])) fin
  | ex e=>exact ⟨_,rfl,hy⟩
theorem Ok.loop {step:σ→Option (Fl σ ρ)} {Q:ρ→Prop} (I:σ→Prop) (μ:σ→Nat) (hs:∀s,I s→Ok (step s) (Fl.elim (fun s'=>I s'∧μ s'<μ s) Q)) (s:σ) (h:I s):Ok (loop step s) Q:=by
 rw [loop_eq]
 refine Ok.bind (hs s h) fun y hy=>?_
 cases y with
 | nx s'=>exact Ok.loop I μ hs s' hy.1
 | ex r=>exact ⟨r,rfl,hy⟩
 termination_by μ s
 decreasing_by exact hy.2
end
def findL {α ρ:Type} (f:α→Option ρ):List α→Option ρ
 | []=>none
 | x::r=>match f x with
  | some y=>some y
  | none=>findL f r
def flO {ρ:Type}:Option ρ→Fl Unit ρ
 | some y=>.ex y
 | none=>.nx ()
theorem forL_find {α ρ:Type} {body:Int→α→Unit→Option (Fl Unit ρ)} (f:α→Option ρ):∀(xs:List α) (k:Int),(∀k x,x∈xs→body k x ()=some (flO (f x)))→forL body xs k ()=some (flO (findL f xs))
 | [],k,h=>rfl
 | x::r,k,h=>by
  simp only [forL,h k x (by simp),Option.bind_some,findL]
  cases f x with
  | some y=>rfl
  | none=>exact forL_find f r (k+1) fun k x hx=>h k x (by simp [hx])
theorem elim_flO {ρ γ:Type} {a:Unit→γ} {b:ρ→γ} (o:Option ρ):Fl.elim a b (flO o)=(match o with|some y=>b y|none=>a ()):=by cases o<;>rfl
end Go.Ab
