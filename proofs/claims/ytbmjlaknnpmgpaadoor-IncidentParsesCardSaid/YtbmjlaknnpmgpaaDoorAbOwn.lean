/- The abstract layer: a row that the caller keeps, at a function that reads it. -/
import Derived.Test.YtbmjlaknnpmgpaaDoorAbFun
set_option linter.all false
set_option linter.all false
namespace Go.Ab
open Go.RowKit
theorem acall_rowS {P:Program} {f k:Nat} {xs:List V} {t:Option TypeId} {args:List V} {y:Str} (h:ACall P f (.sl xs::args) [] (fun r H=>r=.str y∧H=[])) :
  ACall P f (.osl 1000 k 0 xs.length::args) [(1000,.arr k xs t)] (fun r H=>r=.str y∧H=[(1000,.arr k xs t)]):=by
 refine acall_step ⟨.str y,[],[]⟩ h.1 fun g w vals hH hl hv=>?_
 have ho:=hH.obj 1000 _ rfl
 have hH1:HRel P (g.sealed 1000) w []:=by
  refine ⟨fun n o hn=>by simp [find] at hn,fun i j o1 o2 hi _ _ _ _=>by simp [find] at hi,fun n o hn=>by simp [find] at hn,fun b hb=>?_,fun w' hk=>hH.tabs w' fun b hb=>hk b (.inl hb)⟩
  rcases hb with hb|⟨hn,rfl⟩
  ·exact hH.lt b hb
  ·exact ho.block hn
 refine (h.2 (g.sealed 1000) w vals hH1 (by simpa using hl) fun i x hx=>?_).mono ?_
 ·cases i with
  | zero =>
   simp only [List.getElem?_cons_zero,Option.some.injEq] at hx;subst hx
   have h1:=hv 0 (.osl 1000 k 0 xs.length) rfl
   have h2:=VR.shut ho h1 (by simp [V.sealOK])
   simpa [V.shut] using h2
  | succ i=>exact (hv (i+1) x (by simpa using hx)).mono (g':=g.sealed 1000) (fun _ _=>rfl) (fun b (h:g.S b)=>Or.inl h) fun id _=>sealed_agree g 1000 id
 ·rintro en w' ⟨v,r,H',g',rfl,⟨rfl,rfl⟩,_,hr,hf,_⟩
  refine ⟨v,g,rfl,StepOK.grown _ [] hH.lt hf.os hf.tape hf.output hf.size fun b hb _=>hf.old b hb fun ⟨id,o,ho,_⟩=>by simp [find] at ho,Fresh.none _ _,?_⟩
  obtain ⟨q,rfl,rfl,hq⟩:=hr.str_inv
  exact .rd (.str q hq)
end Go.Ab
