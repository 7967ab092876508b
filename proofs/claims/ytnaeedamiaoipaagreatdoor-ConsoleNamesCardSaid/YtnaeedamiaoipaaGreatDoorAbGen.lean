/- The abstract layer: runs that are alike, found by class: what a function computes, and how its loops and joins are described. -/
import Derived.Test.YtnaeedamiaoipaaGreatDoorAbFun
set_option linter.all false
namespace Go.Ab
open Go.Proofs
theorem fnV_sealOK {n k m:Nat} {o:Option Nat}:V.sealOK n k m (fnV o)=True:=by cases o<;>simp [fnV,V.sealOK,V.sealOKs]
theorem fnV_shut {n:Nat} {xs:List V} {o:Option Nat}:V.shut n xs (fnV o)=fnV o:=by cases o<;>simp [fnV,V.shut,V.sealL]
theorem fnV_ren {a b:Nat} {o:Option Nat}:V.ren a b (fnV o)=fnV o:=by cases o<;>simp [fnV,V.ren,V.renL]
theorem fnV_shm {n:Nat} {y:V} {o:Option Nat}:V.shm n y (fnV o)=fnV o:=by cases o<;>simp [fnV,V.shm,V.shmL]
theorem fnV_within {l:List Nat} {o:Option Nat}:V.within l (fnV o)=true:=by cases o<;>simp [fnV,V.within,V.withinL]
attribute [go_sem ↓] fnV_nany fnV_nav fnV_sc fnV_one fnV_sealOK fnV_shut fnV_ren fnV_shm fnV_within fnz_fnV fnV_has fnV_cells fnV_sw fnV_unnil fnV_oids
class WI {α:Type} (F:Option α) (P:outParam Program) (n:outParam Nat) (args:outParam (List V)) (H:outParam Heap) (RV:outParam (α→V)) (HV:outParam (α→Heap)):Prop where
 c:Cn P n args H F RV HV
theorem WI.w {α:Type} {F:Option α} {P:Program} {n:Nat} {args:List V} {H:Heap} {RV:α→V} {HV:α→Heap} [i:WI F P n args H RV HV] {y:α} (hy:F=some y):ACall P n args H (fun r H'=>r=RV y∧H'=HV y):=i.c.w hy
def Al {α:Type} (o:Option α) (Q:α→Prop):Prop:=∀y,o=some y→Q y
section
variable {α β:Type} {Q:α→Prop}
theorem Al.chk {b:Bool} {o:Option α} (h:Al o Q):Al (chk b o) Q:=by
 intro y e
 cases b with
 | true=>exact h y e
 | false=>cases e
theorem Al.ite {b:Bool} {x y:Option α} (h1:Al x Q) (h2:Al y Q):Al (bif b then x else y) Q:=by cases b<;>assumption
theorem Al.bind {o:Option β} {f:β→Option α} (h:∀y,o=some y→Al (f y) Q):Al (o.bind f) Q:=by
 intro y e
 obtain ⟨w,h1,h2⟩:=Option.bind_eq_some_iff.1 e
 exact h w h1 y h2
theorem Al.jn {o:Option β} {f:β→Option α} (h:∀y,o=some y→Al (f y) Q):Al (jn o f) Q:=Al.bind h
theorem Al.grp {x:β} {f:β→Option α} (h:Al (f x) Q):Al (grp x f) Q:=h
theorem Al.some {x:α} (h:Q x):Al (some x) Q:=fun y e=>by cases e;exact h
theorem Al.none:Al none Q:=fun y e=>by cases e
end
theorem loop_len {σ ρ:Type} {step:σ→Option (Fl σ ρ)} {m:σ→Nat} {r:ρ→Nat} (h:∀s o,step s=some o→o.elim (fun s'=>m s'=m s) (fun q=>r q=m s)) {s:σ} {q:ρ} (hl:loop step s=some q):r q=m s:=by
 obtain ⟨n,hn⟩:=loop_iter.1 hl
 clear hl
 induction n generalizing s with
 | zero=>simp [iter] at hn
 | succ n ih =>
  simp only [iter,Option.bind_eq_some_iff] at hn
  obtain ⟨o,h1,h2⟩:=hn
  have e:=h _ _ h1
  cases o with
  | nx s'=>exact (ih h2).trans e
  | ex q'=>cases h2;exact e
class LI (b:MC) (isl nsl:outParam Nat) (ke kh:outParam (List Nat)) {σ:outParam Type} (ue:outParam (σ→List (Nat×V))) (uh:outParam (σ→List Up)) (ns:outParam (List Note)):Prop
class GI (b:List MOp) (ke kh:outParam (List Nat)) {σ:outParam Type} (ue:outParam (σ→List (Nat×V))) (uh:outParam (σ→List Up)):Prop
class GV (b:List MOp) (d:outParam Nat) (ds:outParam (List Nat)):Prop
section
variable {M:Mach} {c:Cfg} {e:List (Nat×V)} {h:Heap} {s:List Fr}
theorem Mach.go_un {b b':MC} {σ:St} (e:b=b') (h:M.go c b' s σ):M.go c b s σ:=e▸h
theorem Mach.ops_un {b b':List MOp} {σ:St} (e:b=b') (h:M.ops c b' s σ):M.ops c b s σ:=e▸h
theorem Mach.jn2 {α β:Type} {a b:MC} {A:Option α} {B:α→Option β} {Q:β→Prop} {i n:Nat} {ke kh:List Nat} {ue:α→List (Nat×V)} {uh:α→List Up} {ns:List Note} [LI b i n ke kh ue uh ns] (hF:Ok (jn A B) Q)
  (h1:∀(Qn:α→Prop) (K:St→Prop),(∀σ',(stepNs c.H0 ns σ' fun σ'=>∃y,Qn y∧SubSt (ovS e h ke kh (ue y) (uh y)) σ')→K σ')→Ok A Qn→M.go ⟨c.P,c.H0,K,M.kX c s,c.R⟩ a [] ⟨e,h⟩)
  (h2:∀y,Ok (B y) Q→M.go c b s (ovS e h ke kh (ue y) (uh y))):M.go c (.cut a b) s ⟨e,h⟩:=M.jn1 ke kh ue uh ns hF h1 h2
theorem Mach.jnE2 {α β ρ:Type} {a b:MC} {A:Option (Fl α ρ)} {B:α→Option β} {E:ρ→Option β} {Q:β→Prop} {i n:Nat} {ke kh:List Nat} {ue:α→List (Nat×V)} {uh:α→List Up} {ns:List Note} [LI b i n ke kh ue uh ns] (hF:Ok (jn A fun o=>o.elim B E) Q)
  (h1:∀(Qn:α→Prop) (K:St→Prop),(∀σ',(stepNs c.H0 ns σ' fun σ'=>∃y,Qn y∧SubSt (ovS e h ke kh (ue y) (uh y)) σ')→K σ')→Ok A (Fl.elim Qn fun r=>Ok (E r) Q)→M.go ⟨c.P,c.H0,K,M.kX c s,c.R⟩ a [] ⟨e,h⟩)
  (h2:∀y,Ok (B y) Q→M.go c b s (ovS e h ke kh (ue y) (uh y))):M.go c (.cut a b) s ⟨e,h⟩:=M.jnE ke kh ue uh ns hF h1 h2
theorem Mach.gj2 {α β:Type} {ms:List MOp} {its:List It} {A:Option α} {B:α→Option β} {Q:β→Prop} {ke kh:List Nat} {ue:α→List (Nat×V)} {uh:α→List Up} [GI ms ke kh ue uh] (hF:Ok (jn A B) Q)
  (h1:∀(Qn:α→Prop) (K:St→Prop),(∀σ',(∃y,Qn y∧SubSt (ovS e h ke kh (ue y) (uh y)) σ')→K σ')→Ok A Qn→M.ops ⟨c.P,c.H0,K,fun _ _=>False,fun _=>False⟩ ms [] ⟨e,h⟩)
  (h2:∀y,Ok (B y) Q→M.kN c (.it its::s) (ovS e h ke kh (ue y) (uh y))):M.grpC c ms its s ⟨e,h⟩:=M.gj1 ke kh ue uh hF h1 h2
theorem Mach.gv2 {ms:List MOp} {its:List It} {x:Bool} {β:Type} {B:Bool→Option β} {Q:β→Prop} {d:Nat} {ds:List Nat} [GV ms d ds] (hF:Ok (grp x B) Q)
  (h1:∀(K:St→Prop),(∀σ',SubSt ⟨put d (.bool x) (dropE ds e),h⟩ σ'→K σ')→M.ops ⟨c.P,c.H0,K,fun _ _=>False,fun _=>False⟩ ms [] ⟨e,h⟩)
  (h2:∀b,Ok (B b) Q→M.kN c (.it its::s) ⟨put d (.bool b) (dropE ds e),h⟩):M.grpC c ms its s ⟨e,h⟩:=M.gv1 d ds hF h1 h2
theorem Mach.wh2 {σ ρ:Type} {b:MC} {step:σ→Option (Fl σ ρ)} {s0:σ} {Q:ρ→Prop} {i n:Nat} {ke kh:List Nat} {ue:σ→List (Nat×V)} {uh:σ→List Up} {ns:List Note} [LI b i n ke kh ue uh ns] (hF:Ok (loop step s0) Q)
  (h0:stepNs c.H0 ns ⟨e,h⟩ fun σ'=>SubSt (ovS e h ke kh (ue s0) (uh s0)) σ')
  (round:∀(x:σ) (Qn:σ→Prop) (K:St→Prop),(∀σ',(stepNs c.H0 ns σ' fun σ'=>∃y,Qn y∧SubSt (ovS e h ke kh (ue y) (uh y)) σ')→K σ')→Ok (step x) (Fl.elim Qn Q)→M.go ⟨c.P,c.H0,K,M.kX c s,c.R⟩ b [] (ovS e h ke kh (ue x) (uh x))) :
  M.go c (.loop b) s ⟨e,h⟩:=M.wh1 ke kh ue uh ns hF h0 round
theorem Mach.for2 {α σ ρ:Type} [Inhabited α] {b:MC} {body:Int→α→σ→Option (Fl σ ρ)} {xs:List α} {s0:σ} {Q:Fl σ ρ→Prop} {isl nsl:Nat} {ke kh:List Nat} {ue:σ→List (Nat×V)} {uh:σ→List Up} {ns:List Note} [LI b isl nsl ke kh ue uh ns] (hF:Ok (forL body xs 0 s0) Q)
  (h0:stepNs c.H0 ns ⟨e,h⟩ fun σ'=>SubSt (ovS e h ke kh ((isl,.int .i64 ((0:Nat):Int))::ue s0) (uh s0)) σ')
  (round:∀(k:Nat) (a:α) (x:σ) (Qn:σ→Prop) (K:St→Prop),(∀σ',(stepNs c.H0 ns σ' fun σ'=>∃y,Qn y∧SubSt (ovS e h ke kh ((isl,.int .i64 ((k+1:Nat):Int))::ue y) (uh y)) σ')→K σ')→k<xs.length→xs.getD k default=a →
   Ok (body k a x) (Fl.elim Qn fun r=>Q (.ex r))→(∀{y:V},find nsl (ovS e h ke kh ((isl,.int .i64 k)::ue x) (uh x)).env=some y→y.fact)→M.go ⟨c.P,c.H0,K,M.kX c s,c.R⟩ b [] (ovS e h ke kh ((isl,.int .i64 k)::ue x) (uh x)))
  (stop:∀(x:σ) (K:St→Prop),Q (.nx x)→M.go ⟨c.P,c.H0,K,M.kX c s,c.R⟩ b [] (ovS e h ke kh ((isl,.int .i64 (xs.length:Int))::ue x) (uh x))):M.go c (.loop b) s ⟨e,h⟩ :=
 M.for1 isl ke kh ue uh ns hF h0 (fun k a x Qn K h1 h2 h3 h4 h5=>round k a x Qn K h1 h2 h3 h4 fun h=>factsE_find h5.1 h) stop
theorem Mach.fold2 {α σ:Type} [Inhabited α] {b:MC} {body:Int→α→σ→Option σ} {xs:List α} {s0:σ} {Q:σ→Prop} {isl nsl:Nat} {ke kh:List Nat} {ue:σ→List (Nat×V)} {uh:σ→List Up} {ns:List Note} [LI b isl nsl ke kh ue uh ns] (hF:Ok (foldL body xs 0 s0) Q)
  (h0:stepNs c.H0 ns ⟨e,h⟩ fun σ'=>SubSt (ovS e h ke kh ((isl,.int .i64 ((0:Nat):Int))::ue s0) (uh s0)) σ')
  (round:∀(k:Nat) (a:α) (x:σ) (Qn:σ→Prop) (K:St→Prop),(∀σ',(stepNs c.H0 ns σ' fun σ'=>∃y,Qn y∧SubSt (ovS e h ke kh ((isl,.int .i64 ((k+1:Nat):Int))::ue y) (uh y)) σ')→K σ')→k<xs.length→xs.getD k default=a →
   Ok (body k a x) Qn→(∀{y:V},find nsl (ovS e h ke kh ((isl,.int .i64 k)::ue x) (uh x)).env=some y→y.fact)→M.go ⟨c.P,c.H0,K,M.kX c s,c.R⟩ b [] (ovS e h ke kh ((isl,.int .i64 k)::ue x) (uh x)))
  (stop:∀(x:σ) (K:St→Prop),Q x→M.go ⟨c.P,c.H0,K,M.kX c s,c.R⟩ b [] (ovS e h ke kh ((isl,.int .i64 (xs.length:Int))::ue x) (uh x))):M.go c (.loop b) s ⟨e,h⟩ :=
 M.fold1 isl ke kh ue uh ns hF h0 (fun k a x Qn K h1 h2 h3 h4 h5=>round k a x Qn K h1 h2 h3 h4 fun h=>factsE_find h5.1 h) stop
theorem useK {P K:St→Prop} (h:∀σ',P σ'→K σ') {σ:St} (p:P σ):K σ:=h σ p
end
theorem decS {p:Prop} [Decidable p] {A B:Prop} (h:(decide p=true→A)∧(decide p=false→B)):(p∧A)∨(¬p∧B):=by
 by_cases hp:p
 ·exact .inl ⟨hp,h.1 (decide_eq_true hp)⟩
 ·exact .inr ⟨hp,h.2 (decide_eq_false hp)⟩
theorem tX {p:Prop} (x:p:=by
 replace h:=tY h
 refine tB ?_
 repeat' (first
 | (exact tZ)
 | ((first|refine oblg h ?_|refine roomG h ?_|refine inbG h ?_|refine incG h ?_|refine divG h ?_|refine appG h ?_|refine appC h ?_|refine fork h ?_ ?_|refine forkS h ?_ ?_)<;>clear h<;>intro hc h)
 | (replace h:=(show divs _ _=true∧_ from h).2)
 | (refine amb_fork h (fun hp=>by simpa using hp) ?_ ?_<;>first
  | (clear h;intro hc h;rw [M.lok_eq];replace h:=tY h;refine tB ?_)
  | (clear h;intro h;rw [M.lok_eq];replace h:=tY h;refine tB ?_))
 | (obtain ⟨y,hy,h⟩:=h;have hw:=WI.w hy;replace hw:=tY hw;(first|refine M.sC hw ?_|refine M.sD hw ?_);clear hw hy;refine tB ?_)
 | ((first|show sCall _ (fnV _) _ _ _ _ _|show sCallD _ (fnV _) _ _ _ _ _);rcases decS h with ⟨hc,h⟩|⟨hc,h⟩<;>first|exact False.elim h|(simp only [hc];replace h:=tY h;refine tB ?_)|skip)
 | (refine M.jn2 h ?_ ?_<;>first
  | (clear h;intro Qn K hK h;replace h:=tY h;refine tB ?_)
  | (clear h;intro y h;refine M.go_un (by with_unfolding_all (conv=>lhs;whnf);try exact rfl) ?_;replace h:=tY h;refine tB ?_))
 | (refine M.jnE2 h ?_ ?_<;>first
  | (clear h;intro Qn K hK h;replace h:=tY h;refine tB ?_)
  | (clear h;intro y h;refine M.go_un (by with_unfolding_all (conv=>lhs;whnf);try exact rfl) ?_;replace h:=tY h;refine tB ?_))
 | (refine M.gv2 h ?_ ?_<;>first
  | (clear h;intro K hK;refine M.ops_un (by with_unfolding_all (conv=>lhs;whnf);try exact rfl) ?_;refine tB ?_)
  | (clear h;intro b h;replace h:=tY h;refine tB ?_))
 | (refine M.gj2 h ?_ ?_<;>first
  | (clear h;intro Qn K hK h;refine M.ops_un (by with_unfolding_all (conv=>lhs;whnf);try exact rfl) ?_;replace h:=tY h;refine tB ?_)
  | (clear h;intro y h;replace h:=tY h;refine tB ?_))
 | (refine M.wh2 h ?_ ?_<;>first
  | (clear h;intro x Qn K hK h;refine M.go_un (by with_unfolding_all (conv=>lhs;whnf);try exact rfl) ?_;replace h:=tY h;refine tB ?_)
  | (clear h;(try refine tB ?_);exact tU0;done))
 | ((first|refine M.for2 h ?_ ?_ ?_|refine M.fold2 h ?_ ?_ ?_)<;>first
  | (clear h;(try (have ha3:=ha2;clear ha2));(try (have ha2:=ha1;clear ha1));(try (have ha1:=ha;clear ha));intro k a x Qn K hK hkN ha h hl;(first|have hl:=fact_int (hl rfl)|skip);have hkd:=kD hkN;have hkB:=kB hkN;have hkI:=kI (k:=k) (by (try simp only [List.length_cons,List.length_nil] at hkN);omega);clear hl;refine M.go_un (by with_unfolding_all (conv=>lhs;whnf);try exact rfl) ?_;replace h:=tY h;refine tK ha hkd hkN hkB hkI ?_)
  | (clear h;intro x K h;replace h:=And.left (And.intro h trivial);refine M.go_un (by with_unfolding_all (conv=>lhs;whnf);try exact rfl) ?_;replace h:=tY h;refine tB ?_)
  | (clear h;(try refine tB ?_);exact tU0;done))
 | (simp only [ha])|(simp only [ha1])|(simp only [ha2])|(simp only [ha3])
 | (refine useK (by assumption) ?_;first|((try refine tB ?_);refine ⟨_,h,?_⟩;(first|(exact tU0;done)|(exact tU;done)))|(exact tU;done))
 | (refine bfork (fun hc=>?_) (fun hc=>?_))
 | (refine tE ?_;(first|rw [M.lok_compU]|rw [M.lokD_compU]);refine tB ?_)
 | (refine ⟨_,getE_mapset (by first|exact inb_toNat (by assumption)|exact inb_nat (by assumption)),?_⟩;(first|rw [M.lok_compU]|rw [M.lokD_compU]|(simp only [V.cells];first|rw [M.lok_comp]|rw [M.lokD_comp]));refine tB ?_)
 | (refine tA ?_)|fail)):p:=x
end Go.Ab
