/- Numbers and words of a line (for chapter 43). -/
import Derived.Test.YtnaeedamiaoipaaGreatDoorAbStr
import Derived.Test.YtnaeedamiaoipaaGreatDoorAbHo
import Derived.Test.YtnaeedamiaoipaaGreatDoorAbSpl
import Derived.Lib.Join
import Derived.Test.YtnaeedamiaoipaaGreatDoorLA
import Derived.Test.YtnaeedamiaoipaaGreatDoorLC
import Derived.Test.YtnaeedamiaoipaaGreatDoorPX
set_option linter.all false
set_option linter.all false
namespace Go.Ab
open Go.Proofs
end Go.Ab
set_option maxRecDepth 20000
namespace Go.Ab
open Go.Proofs
deriving instance DecidableEq for GCommand
inductive Fd
 | nm|ot|tm
 | fa (m:Int)|fb (m:Int)
def Fd.g:Fd→Gfield
 | .nm=>⟨some 142,none,0⟩
 | .ot=>⟨some 143,none,0⟩
 | .tm=>⟨none,some 141,1000000⟩
 | .fa m=>⟨none,some 144,m⟩
 | .fb m=>⟨none,some 145,m⟩
def Fd.get (c:GCommand):Fd→Str
 | .nm=>c.Name
 | .ot=>c.Other
 | .tm=>Lib.itoa c.Time
 | .fa _=>Lib.itoa c.A
 | .fb _=>Lib.itoa c.B
def Fd.zero (c:GCommand):Fd→GCommand
 | .nm=>⟨c.Kind,[],c.Other,c.Time,c.A,c.B⟩
 | .ot=>⟨c.Kind,c.Name,[],c.Time,c.A,c.B⟩
 | .tm=>⟨c.Kind,c.Name,c.Other,0,c.A,c.B⟩
 | .fa _=>⟨c.Kind,c.Name,c.Other,c.Time,0,c.B⟩
 | .fb _=>⟨c.Kind,c.Name,c.Other,c.Time,c.A,0⟩
def Fd.cp (s c:GCommand):Fd→GCommand
 | .nm=>⟨c.Kind,s.Name,c.Other,c.Time,c.A,c.B⟩
 | .ot=>⟨c.Kind,c.Name,s.Other,c.Time,c.A,c.B⟩
 | .tm=>⟨c.Kind,c.Name,c.Other,s.Time,c.A,c.B⟩
 | .fa _=>⟨c.Kind,c.Name,c.Other,c.Time,s.A,c.B⟩
 | .fb _=>⟨c.Kind,c.Name,c.Other,c.Time,c.A,s.B⟩
def rgb (x m:Int):Bool:=decide (0≤x)&&decide (x<m)
theorem rgb_iff {x m:Int}:(rgb x m=true)=(0≤x∧x<m):=by simp [rgb]
def Fd.ok (c:GCommand):Fd→Bool
 | .nm=>namedB c.Name 12
 | .ot=>namedB c.Other 12
 | .tm=>rgb c.Time 1000000
 | .fa m=>rgb c.A m
 | .fb m=>rgb c.B m
def wordsK:List (Str×List Fd) :=
 [([112,101,114,115,111,110],[.nm]),([103,114,111,117,112],[.nm]),
  ([106,111,105,110],[.tm,.nm,.ot]),([108,101,97,118,101],[.tm,.nm,.ot]),
  ([97,108,108,111,119],[.tm,.nm,.fa 16]),([102,111,114,98,105,100],[.tm,.nm,.fa 16]),
  ([111,112,101,110],[.tm,.fa 16,.fb 1000000]),([112,117,116],[.tm,.fa 64,.fb 16]),
  ([99,111,112,121],[.tm,.fa 16,.fb 16]),([119,104,111],[.tm,.fa 16]),([115,105,110,99,101],[.fa 64,.nm])]
def formsL:List Gform:=wordsK.map fun k=>⟨k.1,k.2.map Fd.g⟩
theorem forms_eq:F_k=some formsL:=rfl
def allOk:Bool→GCommand→List Fd→Bool
 | b,_,[]=>b
 | b,c,f::r=>allOk (f.ok c&&b) (f.zero c) r
theorem right_eq (f:Fd) (c:GCommand):F_24 f.g c=some (f.ok c,f.zero c):=by
 cases f<;>simp [F_24,Fd.g,Fd.ok,rgb,Fd.zero,F_1f,F_1e,F_1i,F_1h,F_1g,namedF,jn]<;>(first|(cases decide (0≤c.Time)<;>rfl)|(cases decide (0≤c.A)<;>rfl)|(cases decide (0≤c.B)<;>rfl))
theorem valid_loop:∀(fs:List Fd) (k:Int) (b:Bool) (c:GCommand),foldL F_1j (fs.map Fd.g) k (b,c)=some (allOk b c fs,fs.foldl Fd.zero c)
 | [],_,_,_=>rfl
 | f::r,k,b,c=>by
  simp only [List.map_cons,foldL,F_1j,right_eq,Option.bind_some,grp]
  exact valid_loop r _ _ _
def kindOf (k:Int):Str×List Fd:=wordsK.getD (k - 1).toNat ([],[])
def zeroC (k:Int):GCommand:=⟨k,[],[],0,0,0⟩
def validB (c:GCommand):Bool:=decide (1≤c.Kind)&&(decide (c.Kind≤11)&&(allOk true c (kindOf c.Kind).2&&decide ((kindOf c.Kind).2.foldl Fd.zero c=zeroC c.Kind)))
theorem formsL_len:formsL.length=11:=rfl
theorem forms_get {k:Int} (h0:1≤k) (h1:k≤11):formsL.getD (k - 1).toNat default=⟨(kindOf k).1,(kindOf k).2.map Fd.g⟩:=by
 unfold kindOf formsL
 have h:(k - 1).toNat<wordsK.length:=by show (k - 1).toNat<11;omega
 rw [List.getD_eq_getElem?_getD,List.getElem?_map,List.getElem?_eq_getElem h,List.getD_eq_getElem?_getD,List.getElem?_eq_getElem h]
 rfl
theorem zero_kind:∀(fs:List Fd) (c:GCommand),(fs.foldl Fd.zero c).Kind=c.Kind
 | [],_=>rfl
 | f::r,c=>by rw [List.foldl_cons,zero_kind r];cases f<;>rfl
theorem Valid_eq (c:GCommand):F_1k c=some (validB c):=by
 unfold F_1k validB
 by_cases h0:1≤c.Kind
 ·by_cases h1:c.Kind≤11
  ·have e1:decide (c.Kind<1)=false:=decide_eq_false (by omega)
   have e2:decide (11<c.Kind)=false:=decide_eq_false (by omega)
   simp only [grp,e1,e2,Bool.or_self,cond_false,forms_eq,Option.bind_some,formsL_len]
   rw [chk_true (in64_iff.2 (by omega)),chk_true (inb_iff.2 (by omega)),forms_get h0 h1]
   simp only [valid_loop,Option.bind_some,jn]
   rw [decide_eq_true h0,decide_eq_true h1]
   cases hA:allOk true c (kindOf c.Kind).2 with
   | false=>simp
   | true =>
    have hk:=zero_kind (kindOf c.Kind).2 c
    generalize (kindOf c.Kind).2.foldl Fd.zero c=d at hk ⊢
    cases d
    simp only at hk
    subst hk
    simp [zeroC,GCommand.mk.injEq]
  ·have e2:decide (11<c.Kind)=true:=decide_eq_true (by omega)
   have e3:decide (c.Kind≤11)=false:=decide_eq_false h1
   simp [grp,e2,e3]
 ·have e1:decide (c.Kind<1)=true:=decide_eq_true (by omega)
  have e3:decide (1≤c.Kind)=false:=decide_eq_false h0
  simp [grp,e1,e3]
end Go.Ab
set_option maxRecDepth 20000
namespace Go.Ab
open Go.Proofs
structure VC (c:GCommand):Prop where
 k0:1≤c.Kind
 k1:c.Kind≤11
 ok:∀f∈(kindOf c.Kind).2,f.ok c=true
 cp:(kindOf c.Kind).2.foldl (Fd.cp c) (zeroC c.Kind)=c
 t:0≤c.Time∧c.Time<1000000
 a:0≤c.A∧c.A<1000000
 b:0≤c.B∧c.B<1000000
 n:c.Name.length≤12
 o:c.Other.length≤12
theorem named_iff {s:Str}:namedB s 12=true↔(∀x∈s,97≤x.toNat∧x.toNat≤122)∧1≤s.length∧s.length≤12:=by
 simp [namedB,letters]
 omega
theorem kinds {k:Int} (h0:1≤k) (h1:k≤11):k=1∨k=2∨k=3∨k=4∨k=5∨k=6∨k=7∨k=8∨k=9∨k=10∨k=11:=by omega
theorem valid_inv {c:GCommand} (h:validB c=true):VC c:=by
 unfold validB at h
 simp only [Bool.and_eq_true,decide_eq_true_eq] at h
 obtain ⟨h0,h1,h2,h3⟩:=h
 have hn:∀{s:Str},namedB s 12=true→s.length≤12:=fun h=>(named_iff.1 h).2.2
 obtain ⟨K,N,O,T,A,B⟩:=c
 simp only at h0 h1 h2 h3
 rcases kinds h0 h1 with h|h|h|h|h|h|h|h|h|h|h<;>subst h <;>
  simp [kindOf,wordsK,allOk,Fd.ok,Fd.zero,zeroC,List.getD_cons_succ] at h2 h3<;>(try simp only [rgb_iff] at h2) <;>
  refine ⟨h0,h1,?_,?_,?_,?_,?_,?_,?_⟩<;>simp [kindOf,wordsK,Fd.ok,rgb_iff,Fd.cp,zeroC,h2,h3,hn]<;>(try omega)<;>(try exact hn (by simp [h2]))
end Go.Ab
set_option maxRecDepth 20000
namespace Go.Ab
open Go.Proofs
end Go.Ab
set_option maxRecDepth 20000
namespace Go.Ab
open Go.Proofs
end Go.Ab
set_option maxRecDepth 20000
namespace Go.Ab
open Go.Proofs
structure Sc (x:List GCommand):Prop where
 v:∀c∈x,validB c=true
 n:x.length≤60
theorem Sc.vc {x:List GCommand} (h:Sc x):∀c∈x,VC c:=fun c hc=>valid_inv (h.v c hc)
theorem check_loop:∀(x:List GCommand) (k:Int),(∀c∈x,validB c=true)→forL F_2q x k ()=some (.nx ())
 | [],_,_=>rfl
 | c::r,k,h=>by
  simp only [forL,F_2q,F_2p,Valid_eq,h c (by simp),Option.bind_some,Bool.not_true,cond_false,Fl.elim]
  exact check_loop r (k+1) fun c hc=>h c (List.mem_cons_of_mem _ hc)
theorem check_eq {x:List GCommand} (h:Sc x):F_v x=some 0:=by
 have hn:=h.n
 unfold F_v F_2s F_2r
 rw [decide_eq_false (by omega),cond_false,check_loop x 0 h.v]
 rfl
end Go.Ab
set_option maxRecDepth 20000
namespace Go.Ab
open Go.Proofs
def TO (t:GTape):Prop:=0≤t.at_∧(t.L.length:Int)≤9223372036854775807
theorem in64_s {n:Int} (h0:-1000000000000≤n) (h:n≤1000000000000):in64 n=true:=in64_iff.2 ⟨by omega,by omega⟩
theorem nx_ok {t:GTape} {n:Int} (h:TO t) (hn:0<n):Ok (F_0 t n) fun y=>0≤y.1∧y.1<n∧TO y.2:=by
 unfold F_0
 refine Ok.ite (fun c=>Ok.ret ⟨Int.le_refl 0,hn,h⟩) fun c=>?_
 have c':t.at_<t.L.length:=by simpa using c
 have h1:=h.1;have h2:=h.2
 refine Ok.chk (inb_iff.2 ⟨h.1,c'⟩) (Ok.chk (in64_iff.2 ⟨by omega,by omega⟩) (Ok.chk (divs_iff.2 ⟨Int.emod_nonneg _ (by decide),hn⟩) (Ok.ret ⟨Int.emod_nonneg _ (by omega),Int.emod_lt_of_pos _ hn,?_,h2⟩)))
 show 0≤t.at_+1
 omega
theorem btw_ok {t:GTape} {a b:Int} (h:TO t) (h1:-100000≤a) (h2:a≤b) (h3:b≤100000):Ok (F_2e t a b) fun y=>a≤y.1∧y.1≤b∧TO y.2:=by
 unfold F_2e
 refine Ok.chk (in64_s (by omega) (by omega)) (Ok.chk (in64_s (by omega) (by omega)) (Ok.bind (nx_ok h (by omega)) fun y hy=>Ok.chk (in64_s (by omega) (by omega)) (Ok.ret ⟨?_,?_,hy.2.2⟩)))
 ·show a≤a+y.1;omega
 ·show a+y.1≤b;omega
structure MC0 (ns:List Str) (c:GCommand):Prop where
 k:1≤c.Kind∧c.Kind≤11
 w:c.Kind=1∨c.Kind=2→c.Name∈ns∧c.Other=[]∧c.Time=0∧c.A=0∧c.B=0
 j:c.Kind=3∨c.Kind=4→c.Name∈ns∧c.Other∈ns∧c.A=0∧c.B=0
 g:c.Kind=5∨c.Kind=6→c.Name∈ns∧c.Other=[]∧c.B=0
 o:c.Kind=7→c.Name=[]∧c.Other=[]
 p:c.Kind=8∨c.Kind=9→c.Name=[]∧c.Other=[]∧c.B<3
 q:c.Kind=10→c.Name=[]∧c.Other=[]∧c.B=0
 s:c.Kind=11→c.Name∈ns∧c.Other=[]∧c.Time=0∧c.B=0
 t:0≤c.Time∧c.Time<100
 a:0≤c.A∧c.A<3
 b:0≤c.B∧c.B<200
theorem mc_5z {ns:List Str} (hn:∀n∈ns,namedB n 12=true) {c:GCommand} (h:MC0 ns c):validB c=true:=by
 obtain ⟨⟨k0,k1⟩,w,j,g,o,p,q,s,⟨t0,t1⟩,⟨a0,a1⟩,b0,b1⟩:=h
 obtain ⟨K,N,O,T,A,B⟩:=c
 simp only at *
 unfold validB
 simp only [Bool.and_eq_true,decide_eq_true_eq]
 refine ⟨k0,k1,?_⟩
 rcases kinds k0 k1 with h|h|h|h|h|h|h|h|h|h|h<;>subst h <;>
  simp at w j g o p q s <;>
  simp [kindOf,wordsK,allOk,Fd.ok,Fd.zero,zeroC,rgb_iff, *]<;>omega
theorem command_ok {t:GTape} {ns:List Str} (ht:TO t) (h1:1≤ns.length) (h2:ns.length≤100):Ok (F_2f t ns) fun y=>MC0 ns y.1∧TO y.2:=by
 have hm:∀{i:Int},0≤i→i<ns.length→ns.getD i.toNat default∈ns:=fun {i} h0 h1=>by
  have:i.toNat<ns.length:=by omega
  rw [List.getD_eq_getElem?_getD,List.getElem?_eq_getElem this]
  exact List.getElem_mem this
 unfold F_2f
 refine Ok.bind (nx_ok ht (by omega)) fun y2 e2=>Ok.chk (inb_iff.2 ⟨e2.1,e2.2.1⟩) (Ok.bind (nx_ok e2.2.2 (by omega)) fun y4 e4=>Ok.bind (btw_ok e4.2.2 (by omega) (by omega) (by omega)) fun y6 e6=>?_)
 have n2:=hm e2.1 e2.2.1
 obtain ⟨t0,t1,ht4⟩:=e4
 obtain ⟨k0,k1,ht6⟩:=e6
 refine Ok.jn (P:=fun j=>j=true↔y6.1=1∨y6.1=2) (Ok.ite (fun c=>Ok.ret (by simp at c;simp [c])) fun c=>Ok.ret (by simp at c;simp [c])) fun j7 e7=>Ok.ite (fun c=>?_) fun c=>?_
 ·have hk:=e7.1 c
  exact Ok.ret ⟨⟨⟨k0,k1⟩,fun _=>⟨n2,rfl,rfl,rfl,rfl⟩,fun h=>by simp only at h;omega,fun h=>by simp only at h;omega,fun h=>by simp only at h;omega,fun h=>by simp only at h;omega,fun h=>by simp only at h;omega,fun h=>by simp only at h;omega,by simp,by simp,by simp⟩,ht6⟩
 have hk1:¬(y6.1=1∨y6.1=2):=fun h=>by rw [e7.2 h] at c;cases c
 refine Ok.jn (P:=fun j=>j=true↔y6.1=3∨y6.1=4) (Ok.ite (fun c=>Ok.ret (by simp at c;simp [c])) fun c=>Ok.ret (by simp at c;simp [c])) fun j8 e8=>Ok.ite (fun c=>?_) fun c=>?_
 ·have hk:=e8.1 c
  refine Ok.bind (nx_ok ht6 (by omega)) fun y10 e10=>Ok.chk (inb_iff.2 ⟨e10.1,e10.2.1⟩) (Ok.ret ⟨⟨⟨k0,k1⟩,fun h=>by simp only at h;omega,fun _=>⟨n2,hm e10.1 e10.2.1,rfl,rfl⟩,fun h=>by simp only at h;omega,fun h=>by simp only at h;omega,fun h=>by simp only at h;omega,fun h=>by simp only at h;omega,fun h=>by simp only at h;omega,by simp only;omega,by simp,by simp⟩,e10.2.2⟩)
 have hk2:¬(y6.1=3∨y6.1=4):=fun h=>by rw [e8.2 h] at c;cases c
 refine Ok.jn (P:=fun j=>j=true↔y6.1=5∨y6.1=6) (Ok.ite (fun c=>Ok.ret (by simp at c;simp [c])) fun c=>Ok.ret (by simp at c;simp [c])) fun j11 e11=>Ok.ite (fun c=>?_) fun c=>?_
 ·have hk:=e11.1 c
  refine Ok.bind (nx_ok ht6 (by omega)) fun y13 e13=>Ok.ret ⟨⟨⟨k0,k1⟩,fun h=>by simp only at h;omega,fun h=>by simp only at h;omega,fun _=>⟨n2,rfl,rfl⟩,fun h=>by simp only at h;omega,fun h=>by simp only at h;omega,fun h=>by simp only at h;omega,fun h=>by simp only at h;omega,by simp only;omega,by simp only;omega,by simp⟩,e13.2.2⟩
 have hk3:¬(y6.1=5∨y6.1=6):=fun h=>by rw [e11.2 h] at c;cases c
 refine Ok.ite (fun c=>?_) fun c=>?_
 ·have hk:y6.1=7:=by simpa using c
  refine Ok.bind (nx_ok ht6 (by omega)) fun y16 e16=>Ok.bind (nx_ok e16.2.2 (by omega)) fun y17 e17=>Ok.chk (in64_s (by omega) (by omega)) (Ok.ret ⟨⟨⟨k0,k1⟩,fun h=>by simp only at h;omega,fun h=>by simp only at h;omega,fun h=>by simp only at h;omega,fun _=>⟨rfl,rfl⟩,fun h=>by simp only at h;omega,fun h=>by simp only at h;omega,fun h=>by simp only at h;omega,by simp only;omega,by simp only;omega,by simp only;omega⟩,e17.2.2⟩)
 have hk4:y6.1≠7:=by simpa using c
 refine Ok.ite (fun c=>?_) fun c=>?_
 ·have hk:y6.1=8:=by simpa using c
  refine Ok.bind (nx_ok ht6 (by omega)) fun y16 e16=>Ok.bind (nx_ok e16.2.2 (by omega)) fun y17 e17=>Ok.ret ⟨⟨⟨k0,k1⟩,fun h=>by simp only at h;omega,fun h=>by simp only at h;omega,fun h=>by simp only at h;omega,fun h=>by simp only at h;omega,fun _=>⟨rfl,rfl,e17.2.1⟩,fun h=>by simp only at h;omega,fun h=>by simp only at h;omega,by simp only;omega,by simp only;omega,by simp only;omega⟩,e17.2.2⟩
 have hk5:y6.1≠8:=by simpa using c
 refine Ok.ite (fun c=>?_) fun c=>?_
 ·have hk:y6.1=9:=by simpa using c
  refine Ok.bind (nx_ok ht6 (by omega)) fun y16 e16=>Ok.bind (nx_ok e16.2.2 (by omega)) fun y17 e17=>Ok.ret ⟨⟨⟨k0,k1⟩,fun h=>by simp only at h;omega,fun h=>by simp only at h;omega,fun h=>by simp only at h;omega,fun h=>by simp only at h;omega,fun _=>⟨rfl,rfl,e17.2.1⟩,fun h=>by simp only at h;omega,fun h=>by simp only at h;omega,by simp only;omega,by simp only;omega,by simp only;omega⟩,e17.2.2⟩
 have hk6:y6.1≠9:=by simpa using c
 refine Ok.ite (fun c=>?_) fun c=>?_
 ·have hk:y6.1=10:=by simpa using c
  refine Ok.bind (nx_ok ht6 (by omega)) fun y16 e16=>Ok.ret ⟨⟨⟨k0,k1⟩,fun h=>by simp only at h;omega,fun h=>by simp only at h;omega,fun h=>by simp only at h;omega,fun h=>by simp only at h;omega,fun h=>by simp only at h;omega,fun _=>⟨rfl,rfl,rfl⟩,fun h=>by simp only at h;omega,by simp only;omega,by simp only;omega,by simp⟩,e16.2.2⟩
 have hk7:y6.1≠10:=by simpa using c
 refine Ok.bind (nx_ok ht6 (by omega)) fun y16 e16=>Ok.ret ⟨⟨by simp,fun h=>by simp only at h;omega,fun h=>by simp only at h;omega,fun h=>by simp only at h;omega,fun h=>by simp only at h;omega,fun h=>by simp only at h;omega,fun h=>by simp only at h;omega,fun _=>⟨n2,rfl,rfl,rfl⟩,by simp,by simp only;omega,by simp⟩,e16.2.2⟩
end Go.Ab
set_option maxRecDepth 20000
namespace Go.Ab
open Go.Proofs
abbrev nAnn:Str:=[97,110,110]
abbrev nOps:Str:=[111,112,115]
abbrev nBob:Str:=[98,111,98]
abbrev nDev:Str:=[100,101,118]
abbrev nm4:List Str:=[nAnn,nOps,nBob,nDev]
abbrev four:List GCommand:=[⟨1,nAnn,[],0,0,0⟩,⟨2,nOps,[],0,0,0⟩,⟨1,nBob,[],0,0,0⟩,⟨2,nDev,[],0,0,0⟩]
structure SC (c:GCommand):Prop where
 m:MC0 nm4 c
 k:3≤c.Kind
 j:c.Kind=3∨c.Kind=4→(c.Other=nOps∨c.Other=nDev)∧c.Name≠c.Other
 o:c.Kind=7→c.Time<c.B
 p:c.Kind=9→c.A≠c.B
theorem gr2_or {i:Int} (h0:0≤i) (h1:i<2):([nOps,nDev]:List Str).getD i.toNat default=nOps∨([nOps,nDev]:List Str).getD i.toNat default=nDev:=by
 have:i=0∨i=1:=by omega
 rcases this with rfl|rfl
 ·exact .inl rfl
 ·exact .inr rfl
theorem script_sc {t:GTape} (ht:TO t):Ok (F_2g t) fun y=>(∃r,y.1=four++r∧r.length≤13∧∀c∈r,SC c)∧TO y.2:=by
 unfold F_2g
 refine Ok.bind (nx_ok ht (by omega)) fun y e=>Ok.bind (P:=fun z=>(∃r,z.1=four++r∧r.length≤13∧∀c∈r,SC c)∧TO z.2) ?_ fun r hr=>Ok.ret hr
 refine Ok.loop (fun s=>0≤s.1∧(∃r,s.2.1=four++r∧(r.length:Int)+s.1≤13∧∀c∈r,SC c)∧TO s.2.2) (fun s=>s.1.toNat) (fun s hs=>?_) _ ⟨e.1,⟨[],rfl,by simp only [List.length_nil];omega,by simp⟩,e.2.2⟩
 obtain ⟨k,l,t⟩:=s
 obtain ⟨h0,⟨r,h1,h2,h3⟩,h4⟩:=hs
 simp only at h0 h1 h2 h3 h4
 subst h1
 unfold F_2x
 refine Ok.ite (fun c=>?_) fun c=>Ok.ret ⟨⟨r,rfl,by omega,h3⟩,h4⟩
 have hk:0<k:=by simpa using c
 refine Ok.jn (P:=fun j=>(∃r',j.1=four++r'∧(r'.length:Int)≤r.length+1∧∀c∈r',SC c)∧TO j.2) ?_ fun j hj=>?_
 ·refine Ok.bind (command_ok h4 (by simp) (by simp)) fun y e=>?_
  obtain ⟨m,ht1⟩:=e
  refine Ok.jn (P:=fun o=>o.elim (fun j=>SC j.1∧TO j.2) fun t=>TO t) ?_ fun o ho=>?_
  ·refine Ok.jn (P:=fun j=>j=true↔y.1.Kind=1∨y.1.Kind=2) (Ok.ite (fun c=>Ok.ret (by simp at c;simp [c])) fun c=>Ok.ret (by simp at c;simp [c])) fun j e7=>Ok.ite (fun c=>Ok.ret ht1) fun c=>?_
   have hk1:¬(y.1.Kind=1∨y.1.Kind=2):=fun h=>by rw [e7.2 h] at c;cases c
   have mk:=m.k
   have hk3:3≤y.1.Kind:=by omega
   refine Ok.jn (P:=fun j=>j=true↔y.1.Kind=3∨y.1.Kind=4) (Ok.ite (fun c=>Ok.ret (by simp at c;simp [c])) fun c=>Ok.ret (by simp at c;simp [c])) fun j e8=>Ok.ite (fun c=>?_) fun c=>?_
   ·have hk2:=e8.1 c
    refine Ok.bind (nx_ok ht1 (by omega)) fun z ez=>Ok.chk (inb_iff.2 ⟨ez.1,by simpa using ez.2.1⟩) (Ok.ite (fun _=>Ok.ret ez.2.2) fun hne=>Ok.ret ⟨?_,ez.2.2⟩)
    have mj:=m.j hk2
    have hg:=gr2_or ez.1 ez.2.1
    have hin:([nOps,nDev]:List Str).getD z.1.toNat default∈nm4:=by rcases hg with h|h<;>rw [h]<;>simp
    refine ⟨⟨m.k,fun h=>absurd h hk1,fun _=>⟨mj.1,hin,mj.2.2.1,mj.2.2.2⟩,fun h=>by simp only at h;omega,fun h=>by simp only at h;omega,fun h=>by simp only at h;omega,fun h=>by simp only at h;omega,fun h=>by simp only at h;omega,m.t,m.a,m.b⟩,hk3,fun _=>⟨hg,of_decide_eq_false hne⟩,fun h=>by simp only at h;omega,fun h=>by simp only at h;omega⟩
   ·have hk4:¬(y.1.Kind=3∨y.1.Kind=4):=fun h=>by rw [e8.2 h] at c;cases c
    refine Ok.ite (fun c=>?_) fun c=>Ok.ite (fun c9=>Ok.ite (fun _=>Ok.ret ht1) fun hne=>Ok.ret ⟨⟨m,hk3,fun h=>absurd h hk4,fun h=>by have h':y.1.Kind=7:=h;have:y.1.Kind=9:=of_decide_eq_true c9;omega,fun _=>of_decide_eq_false hne⟩,ht1⟩) fun c9=>Ok.ret ⟨⟨m,hk3,fun h=>absurd h hk4,fun h=>absurd h (of_decide_eq_false c),fun h=>absurd h (of_decide_eq_false c9)⟩,ht1⟩
    have h7:y.1.Kind=7:=by simpa using c
    have mt:=m.t
    refine Ok.chk (in64_s (by omega) (by omega)) (Ok.bind (nx_ok ht1 (by omega)) fun z ez=>Ok.chk (in64_s (by omega) (by omega)) (Ok.ret ⟨?_,ez.2.2⟩))
    have mo:=m.o h7
    exact ⟨⟨m.k,fun h=>by simp only at h;omega,fun h=>by simp only at h;omega,fun h=>by simp only at h;omega,fun _=>mo,fun h=>by simp only at h;omega,fun h=>by simp only at h;omega,fun h=>by simp only at h;omega,m.t,m.a,by simp only;omega⟩,hk3,fun h=>absurd h hk4,fun _=>by simp only;omega,fun h=>by simp only at h;omega⟩
  ·cases o with
   | nx j =>
    refine Ok.chk (room_iff.2 (by simp only [List.length_append,List.length_cons,List.length_nil];omega)) (Ok.ret ⟨⟨r++[j.1],by simp,by simp,fun c hc=>?_⟩,ho.2⟩)
    rcases List.mem_append.1 hc with hc|hc
    ·exact h3 c hc
    ·simp at hc;subst hc;exact ho.1
   | ex t=>exact Ok.ret ⟨⟨r,rfl,by omega,h3⟩,ho⟩
 ·obtain ⟨⟨r',g1,g2,g3⟩,g4⟩:=hj
  exact Ok.chk (in64_s (by simp only;omega) (by simp only;omega)) (Ok.ret ⟨⟨by simp only;omega,⟨r',g1,by simp only;omega,g3⟩,g4⟩,by simp only;omega⟩)
end Go.Ab
set_option maxRecDepth 20000
namespace Go.Ab
open Go.Proofs
def byT (l:List GCommand):Prop:=l.Pairwise fun a b=>a.Time≤b.Time
def atT (t:Int) (l:List GCommand):List GCommand:=l.filter fun c=>decide (c.Time=t)
structure Srt (d r:List GCommand):Prop where
 s:byT r
 f:∀t,atT t r=atT t d
 p:r.Perm d
theorem atT_app (t:Int) (a b:List GCommand):atT t (a++b)=atT t a++atT t b:=List.filter_append ..
theorem get_mid {q:List GCommand} {c:GCommand} {r:List GCommand}:(q++c::r).getD q.length default=c:=by simp [List.getD_eq_getElem?_getD]
theorem swap_mid (b c:GCommand) (r:List GCommand):∀q:List GCommand,((q++b::c::r).set (q.length+1) b).set q.length c=q++c::b::r
 | []=>rfl
 | a::q=>by
  have:=swap_mid b c r q
  simpa using this
def tOK (c:GCommand):Prop:=0≤c.Time∧c.Time≤1000000000
theorem ins_ok {c:GCommand} {p s:List GCommand} (hp:byT p) (hc:tOK c) (hb:∀x∈p,tOK x) (hl:p.length+s.length≤1000) :
  Ok (loop (F_r 0) ((p.length:Int),p++c::s))
   fun r=>∃p1 p2,r=p1++c::(p2++s)∧p1++p2=p∧(∀x∈p1,x.Time≤c.Time)∧∀x∈p2,c.Time<x.Time:=by
 refine Ok.loop (fun st=>∃p1 p2,st.1=(p1.length:Int)∧st.2=p1++c::(p2++s)∧p1++p2=p∧∀x∈p2,c.Time<x.Time) (fun st=>st.1.toNat) (fun st hst=>?_) _ ⟨p,[],rfl,by simp,by simp,by simp⟩
 obtain ⟨i,d⟩:=st
 obtain ⟨p1,p2,h1,h2,h3,h4⟩:=hst
 simp only at h1 h2
 subst h1 h2
 have hl1:p1.length+p2.length=p.length:=by rw [←h3];simp
 unfold F_r
 refine Ok.ite (fun h0=>?_) fun h0=>?_
 ·have hpos:0<p1.length:=by simpa using h0
  obtain ⟨q,b,rfl⟩:∃q b,p1=q++[b]:=⟨p1.dropLast,p1.getLast (by intro e;rw [e] at hpos;simp at hpos),(List.dropLast_concat_getLast _).symm⟩
  have el:(q++[b]).length=q.length+1:=by simp
  simp only [List.length_append,List.length_cons,List.length_nil] at hl1
  have e0:(q++[b])++c::(p2++s)=q++b::c::(p2++s):=by simp
  have e1:(((q++[b]).length:Nat):Int).toNat=q.length+1:=by rw [el];omega
  have e2:(((q++[b]).length:Int) - 1).toNat=q.length:=by rw [el];omega
  have g1:(q++b::c::(p2++s)).getD (q.length+1) default=c:=by
   have:=get_mid (q:=q++[b]) (c:=c) (r:=p2++s)
   rw [el,e0] at this;exact this
  have g2:(q++b::c::(p2++s)).getD q.length default=b:=get_mid
  have hbt:tOK b:=hb b (by rw [←h3];simp)
  obtain ⟨c0,c1⟩:=hc
  obtain ⟨b0,b1⟩:=hbt
  have hin:∀{k:Int},0≤k→k<q.length+2→inb k (q++b::c::(p2++s)).length=true:=fun h0 h1=>inb_iff.2 (by simp only [List.length_append,List.length_cons];omega)
  rw [e0,e1,e2,g1,g2]
  refine Ok.chk (hin (by omega) (by rw [el];omega)) (Ok.chk (in64_s (by omega) (by rw [el];omega)) (Ok.chk (hin (by rw [el];omega) (by rw [el];omega)) ?_))
  unfold F_2j
  refine Ok.bind (P:=fun y=>y=c.Time - b.Time) (Ok.chk (in64_s (by omega) (by omega)) (Ok.ret rfl)) fun y ey=>?_
  subst ey
  refine Ok.ite (fun hlt=>?_) fun hge=>?_
  ·have hlt':c.Time<b.Time:=by have:=of_decide_eq_true hlt;omega
   rw [swap_mid]
   refine Ok.chk (in64_s (by omega) (by rw [el];omega)) (Ok.chk (in64_s (by omega) (by rw [el];omega)) (Ok.chk (hin (by rw [el];omega) (by rw [el];omega)) (Ok.chk (hin (by omega) (by rw [el];omega)) (Ok.chk (hin (by omega) (by rw [el];omega)) (Ok.chk ?_ (Ok.chk (in64_s (by omega) (by rw [el];omega)) (Ok.ret ⟨⟨q,b::p2,by rw [el];simp only;omega,by simp,by rw [←h3];simp,fun x hx=>?_⟩,by simp only [el];omega⟩)))))))
   ·rw [List.length_set];exact hin (by rw [el];omega) (by rw [el];omega)
   ·rcases List.mem_cons.1 hx with rfl|hx
    ·exact hlt'
    ·exact h4 x hx
  ·have hge':b.Time≤c.Time:=by have:=of_decide_eq_false hge;omega
   refine Ok.ret ⟨q++[b],p2,by simp,h3,fun x hx=>?_,h4⟩
   rw [←h3] at hp
   have hq:=(List.pairwise_append.1 (List.pairwise_append.1 hp).1).2.2
   rcases List.mem_append.1 hx with hx|hx
   ·exact Int.le_trans (hq x hx b (by simp)) hge'
   ·simp at hx;subst hx;exact hge'
 ·have hz:p1.length=0:=by have:=of_decide_eq_false h0;omega
  obtain rfl:=List.length_eq_zero_iff.1 hz
  exact Ok.ret ⟨[],p2,rfl,h3,by simp,h4⟩
theorem Srt.ins {d p p1 p2:List GCommand} {c:GCommand} (h:Srt d p) (e:p1++p2=p) (h1:∀x∈p1,x.Time≤c.Time) (h2:∀x∈p2,c.Time<x.Time):Srt (d++[c]) (p1++c::p2):=by
 subst e
 have hs:=List.pairwise_append.1 h.s
 refine ⟨List.pairwise_append.2 ⟨hs.1,List.pairwise_cons.2 ⟨fun x hx=>Int.le_of_lt (h2 x hx),hs.2.1⟩,fun a ha b hb=>?_⟩,fun t=>?_,?_⟩
 ·rcases List.mem_cons.1 hb with rfl|hb
  ·exact h1 a ha
  ·exact hs.2.2 a ha b hb
 ·have hf:=h.f t
  rw [atT_app] at hf
  rw [atT_app,atT_app,←hf]
  by_cases ht:c.Time=t
  ·have e:atT t p2=[]:=by
    unfold atT
    rw [List.filter_eq_nil_iff]
    intro x hx
    have:=h2 x hx
    simp;omega
   have e2:atT t (c::p2)=c::atT t p2:=by simp [atT,ht]
   have e3:atT t [c]=[c]:=by simp [atT,ht]
   rw [e2,e3,e];simp
  ·have e2:atT t (c::p2)=atT t p2:=by simp [atT,ht]
   have e3:atT t [c]=[]:=by simp [atT,ht]
   rw [e2,e3];simp
 ·exact (List.perm_middle).trans ((List.Perm.cons c h.p).trans (List.perm_append_singleton c d).symm)
end Go.Ab
set_option maxRecDepth 20000
namespace Go.Ab
open Go.Proofs
theorem insertion_ok {d:List GCommand} (h0:d≠[]) (hl:d.length≤900) (ht:∀x∈d,tOK x) :
  Ok (F_6 d 0 (d.length:Int)) (Srt d):=by
 unfold F_6
 refine Ok.chk (in64_s (by omega) (by omega)) (Ok.bind (P:=Srt d) ?_ fun r hr=>Ok.ret hr)
 obtain ⟨a,r,rfl⟩:∃a r,d=a::r:=by cases d with|nil=>exact absurd rfl h0|cons a r=>exact ⟨a,r,rfl⟩
 refine Ok.loop (fun st=>∃pre s,st.1=(pre.length:Int)∧1≤pre.length∧st.2=pre++s∧s=(a::r).drop pre.length∧pre.length≤(a::r).length∧Srt ((a::r).take pre.length) pre) (fun st=>(((a::r).length:Int) - st.1).toNat) (fun st hst=>?_) _ ⟨[a],r,rfl,by simp,rfl,rfl,by simp,⟨by simp [byT],fun t=>rfl,List.Perm.refl _⟩⟩
 obtain ⟨i,x⟩:=st
 obtain ⟨pre,s,h1,h2,h3,h4,h5,h6⟩:=hst
 simp only at h1 h3
 subst h1 h3
 unfold F_1a
 refine Ok.ite (fun hlt=>?_) fun hge=>?_
 ·have hlt':pre.length<(a::r).length:=by have:=of_decide_eq_true hlt;omega
  have hc:=List.drop_eq_getElem_cons hlt'
  have hmem:(a::r)[pre.length]∈a::r:=List.getElem_mem hlt'
  have htk:(a::r).take (pre.length+1)=(a::r).take pre.length++[(a::r)[pre.length]]:=by rw [List.take_succ,List.getElem?_eq_getElem hlt'];rfl
  generalize (a::r)[pre.length]=c at hc hmem htk
  have es:s=c::(a::r).drop (pre.length+1):=h4.trans hc
  have hpm:∀y∈pre,y∈a::r:=fun y hy=>List.mem_of_mem_take (h6.p.mem_iff.1 hy)
  have hdl:((a::r).drop (pre.length+1)).length=(a::r).length - (pre.length+1):=List.length_drop ..
  rw [es]
  refine Ok.bind (ins_ok (s:=(a::r).drop (pre.length+1)) h6.s (ht c hmem) (fun y hy=>ht y (hpm y hy)) (by omega)) fun y hy=>?_
  obtain ⟨p1,p2,e1,e2,e3,e4⟩:=hy
  subst e1
  have hlen:(p1++c::p2).length=pre.length+1:=by rw [←e2];simp;omega
  have hs:=h6.ins e2 e3 e4
  refine Ok.chk (in64_s (by omega) (by omega)) (Ok.ret ⟨⟨p1++c::p2,(a::r).drop (pre.length+1),by rw [hlen];simp,by rw [hlen];omega,by simp,by rw [hlen],by rw [hlen];omega,?_⟩,by simp only;omega⟩)
  rw [hlen,htk];exact hs
 ·have hge':(a::r).length≤pre.length:=by have:=of_decide_eq_false hge;omega
  have e:pre.length=(a::r).length:=by omega
  rw [h4,e,List.drop_length,List.append_nil]
  rw [e,List.take_length] at h6
  exact Ok.ret h6
theorem Stable_ok {d:List GCommand} (h0:d≠[]) (hl:d.length≤19) (ht:∀x∈d,tOK x):Ok (F_7 d) (Srt d):=by
 unfold F_7 F_s
 refine Ok.bind (P:=Srt d) ?_ fun y hy=>Ok.ret hy
 have e1:loop (F_f (d.length:Int)) (0,20,d)=some (0,d):=by
  rw [loop_eq]
  unfold F_f
  rw [decide_eq_false (by simp only;omega)]
  rfl
 have e2:loop (F_1b (d.length:Int)) ()=some ():=by
  rw [loop_eq]
  unfold F_1b
  rw [decide_eq_false (by omega)]
  rfl
 rw [e1,Option.bind_some]
 show Ok ((F_6 d 0 (d.length:Int)).bind _) _
 refine Ok.bind (insertion_ok h0 (by omega) ht) fun y hy=>?_
 rw [e2]
 exact Ok.ret hy
noncomputable def srt (d:List GCommand):List GCommand:=(F_7 d).getD []
theorem Stable_eq {d:List GCommand} (h0:d≠[]) (hl:d.length≤19) (ht:∀x∈d,tOK x):F_7 d=some (srt d)∧Srt d (srt d):=by
 obtain ⟨y,e,h⟩:=Stable_ok h0 hl ht
 unfold srt
 rw [e]
 exact ⟨rfl,h⟩
end Go.Ab
set_option maxRecDepth 20000
namespace Go.Ab
open Go.Proofs
structure EvD (kds:List Int) (e:GMember):Prop where
 k:e.Kind=1∨e.Kind=2
 t:0≤e.Time∧e.Time≤1000000000
 p:0≤e.Principal∧e.Principal<kds.length
 g:0≤e.Group∧e.Group<kds.length
 u:kds.getD e.Group.toNat default=2
 n:e.Principal≠e.Group
theorem dkinds:∀(ks:List Int) (k:Int),(∀x∈ks,1≤x∧x≤3)→forL F_25 ks k ()=some (.nx ())
 | [],_,_=>rfl
 | a::r,k,h=>by
  have ha:=h a (by simp)
  have e1:decide (a<1)=false:=decide_eq_false (by omega)
  have e2:decide (3<a)=false:=decide_eq_false (by omega)
  simp only [forL,F_25,F_l,grp,e1,e2,Bool.or_self,Option.bind_some,cond_false,Fl.elim]
  exact dkinds r (k+1) fun x hx=>h x (List.mem_cons_of_mem _ hx)
theorem dloop {d:GDirectory}:∀(es:List GMember) (k q:Int),(∀e∈es,EvD d.Kinds e∧q≤e.Time)→(es.Pairwise fun a b=>a.Time≤b.Time)→∃z,forL (F_x d) es k q=some (.nx z)
 | [],_,q,_,_=>⟨q,rfl⟩
 | a::r,k,q,h,hs=>by
  obtain ⟨ha,hq⟩:=h a (by simp)
  have hs':=List.pairwise_cons.1 hs
  obtain ⟨⟨t0,t1⟩,⟨p0,p1⟩,⟨g0,g1⟩,u,n⟩:=(⟨ha.t,ha.p,ha.g,ha.u,ha.n⟩:_∧_∧_∧_∧_)
  have e1:(!decide (a.Kind=1)&&!decide (a.Kind=2))=false:=by rcases ha.k with h|h<;>simp [h]
  have e2:decide (a.Time<q)=false:=decide_eq_false (by omega)
  have e3:decide (1099511627776<a.Time)=false:=decide_eq_false (by omega)
  have x1:F_8 d a.Principal=some true:=by unfold F_8;simp [grp,p0,p1]
  have x2:F_w d a.Group=some true:=by
   unfold F_w F_8
   simp only [grp,decide_eq_true g0,decide_eq_true g1,Bool.and_self,Option.bind_some,jn,cond_true]
   rw [chk_true (inb_iff.2 ⟨g0,g1⟩),u];rfl
  have hh:F_x d k a q=some (.nx a.Time):=by
   unfold F_x
   simp only [grp,e1,e2,e3,Bool.or_self,cond_false,x1,x2,Option.bind_some,Bool.not_true,Bool.false_or,decide_eq_false n]
  simp only [forL,hh,Option.bind_some,Fl.elim]
  exact dloop r (k+1) a.Time (fun e he=>⟨(h e (List.mem_cons_of_mem _ he)).1,hs'.1 e he⟩) hs'.2
theorem dcheck {d:GDirectory} (hk:∀k∈d.Kinds,1≤k∧k≤3) (h1:d.Kinds.length≤24) (h2:d.Events.length≤120) (he:∀e∈d.Events,EvD d.Kinds e) (hs:d.Events.Pairwise fun a b=>a.Time≤b.Time):F_5 d=some 0:=by
 obtain ⟨z,hz⟩:=dloop (d:=d) d.Events 0 0 (fun e h=>⟨he e h,(he e h).t.1⟩) hs
 unfold F_5 F_26 F_2u
 rw [dkinds _ _ hk,hz]
 have e1:decide (24<(d.Kinds.length:Int))=false:=decide_eq_false (by omega)
 have e2:decide (120<(d.Events.length:Int))=false:=decide_eq_false (by omega)
 simp only [grp,e1,e2,Bool.or_self,cond_false,Option.bind_some,Fl.elim]
 rfl
structure EvA (e:GAccess):Prop where
 t:0≤e.Time∧e.Time≤1000000000
 p:0≤e.Place∧e.Place≤15
 k:(e.Kind=1∨e.Kind=2)∧(0≤e.Principal∧e.Principal≤23)∧e.Until=0∧e.Content=0∧e.From=0
  ∨ e.Kind=3∧(e.Time<e.Until∧e.Until≤1000000000)∧e.Principal=0∧e.Content=0∧e.From=0
  ∨ e.Kind=5∧(0≤e.Content∧e.Content≤63)∧e.Principal=0∧e.Until=0∧e.From=0
  ∨ e.Kind=7∧(0≤e.From∧e.From≤15)∧e.From≠e.Place∧e.Principal=0∧e.Until=0∧e.Content=0
theorem among_eq {n a b:Int} (h0:a≤n) (h1:n≤b):F_9 n a b=some true:=by unfold F_9;simp [grp,h0,h1]
theorem place_eq {es:List GAccess} {p:Int} (h0:0≤p) (h1:p≤15):F_4 ⟨16,es⟩ p=some true:=by
 unfold F_4
 simp only
 rw [chk_true (in64_s (by omega) (by omega)),among_eq h0 (by omega)];rfl
theorem acc_right {es:List GAccess} {e:GAccess} (h:EvA e):F_y ⟨16,es⟩ e=some true:=by
 obtain ⟨T,K,P,R,U,C,F⟩:=e
 obtain ⟨⟨t0,t1⟩,⟨p0,p1⟩,hk⟩:=h
 simp only at t0 t1 p0 p1 hk
 have hp:=place_eq (es:=es) p0 p1
 unfold F_y
 rcases hk with ⟨rfl|rfl,⟨r0,r1⟩,rfl,rfl,rfl⟩|⟨rfl,⟨u0,u1⟩,rfl,rfl,rfl⟩|⟨rfl,⟨c0,c1⟩,rfl,rfl,rfl⟩|⟨rfl,⟨f0,f1⟩,hne,rfl,rfl,rfl⟩
 ·simp [jn,grp,among_eq r0 r1,hp]
 ·simp [jn,grp,among_eq r0 r1,hp]
 ·have:U≤1099511627776:=by omega
  simp [jn,grp,u0,this,hp]
 ·simp [jn,grp,F_a,among_eq c0 c1,hp]
 ·simp [jn,grp,place_eq (es:=es) f0 f1,hne,hp]
theorem aloop {es0:List GAccess}:∀(es:List GAccess) (k q:Int),(∀e∈es,EvA e∧q≤e.Time)→(es.Pairwise fun a b=>a.Time≤b.Time)→∃z,forL (F_z ⟨16,es0⟩) es k q=some (.nx z)
 | [],_,q,_,_=>⟨q,rfl⟩
 | a::r,k,q,h,hs=>by
  obtain ⟨ha,hq⟩:=h a (by simp)
  have hs':=List.pairwise_cons.1 hs
  have ht:=ha.t
  have e2:decide (a.Time<q)=false:=decide_eq_false (by omega)
  have e3:decide (1099511627776<a.Time)=false:=decide_eq_false (by omega)
  have hh:F_z ⟨16,es0⟩ k a q=some (.nx a.Time):=by
   unfold F_z
   simp only [grp,e2,e3,Bool.or_self,cond_false,acc_right ha,Option.bind_some,Bool.not_true]
  simp only [forL,hh,Option.bind_some,Fl.elim]
  exact aloop r (k+1) a.Time (fun e he=>⟨(h e (List.mem_cons_of_mem _ he)).1,hs'.1 e he⟩) hs'.2
theorem acheck {es:List GAccess} (h2:es.length≤120) (he:∀e∈es,EvA e) (hs:es.Pairwise fun a b=>a.Time≤b.Time):F_3 ⟨16,es⟩=some 0:=by
 obtain ⟨z,hz⟩:=aloop (es0:=es) es 0 0 (fun e h=>⟨he e h,(he e h).t.1⟩) hs
 unfold F_3
 have e2:decide (120<(es.length:Int))=false:=decide_eq_false (by omega)
 simp only [among_eq (show (1:Int)≤16 by omega) (show (16:Int)≤16 by omega),Option.bind_some,grp,e2,Bool.not_true,Bool.or_self,cond_false,hz,Fl.elim]
end Go.Ab
set_option maxRecDepth 20000
namespace Go.Ab
open Go.Proofs
def idxS (v:Str):List Str→Int→Option Int
 | [],_=>none
 | a::r,k=>bif decide (v=a) then some k else idxS v r (k+1)
def idxN (s:List Str) (v:Str):Int:=(idxS v s 0).getD (-1)
theorem index_lp (v:Str):∀(s:List Str) (k:Int),forL (F_30 v) s k ()=some (match idxS v s k with|some j=>.ex j|none=>.nx ())
 | [],_=>rfl
 | a::r,k=>by
  simp only [forL,F_30,idxS]
  cases decide (v=a) with
  | true=>rfl
  | false=>exact index_lp v r (k+1)
theorem Index_eq (s:List Str) (v:Str):F_d s v=some (idxN s v):=by
 unfold F_d idxN
 rw [index_lp]
 cases idxS v s 0<;>rfl
theorem idxS_in (v:Str):∀(s:List Str) (k:Int),v∈s→∃i:Nat,idxS v s k=some (k+i)∧i<s.length∧s.getD i []=v
 | [],_,h=>by simp at h
 | a::r,k,h=>by
  by_cases e:v=a
  ·exact ⟨0,by simp [idxS,e],by simp,by simp [e]⟩
  ·obtain ⟨i,h1,h2,h3⟩:=idxS_in v r (k+1) ((List.mem_cons.1 h).resolve_left e)
   exact ⟨i+1,by simp only [idxS,decide_eq_false e,cond_false,h1];congr 1;omega,by simp;omega,by simpa using h3⟩
theorem idxS_out (v:Str):∀(s:List Str) (k:Int),v∉s→idxS v s k=none
 | [],_,_=>rfl
 | a::r,k,h=>by
  have e:v≠a:=fun e=>h (by simp [e])
  simp only [idxS,decide_eq_false e,cond_false]
  exact idxS_out v r (k+1) fun h'=>h (List.mem_cons_of_mem _ h')
theorem idxN_in {s:List Str} {v:Str} (h:v∈s):∃i:Nat,idxN s v=(i:Int)∧i<s.length∧s.getD i []=v:=by
 obtain ⟨i,h1,h2⟩:=idxS_in v s 0 h
 exact ⟨i,by unfold idxN;rw [h1];simp,h2⟩
theorem idxN_out {s:List Str} {v:Str} (h:v∉s):idxN s v=-1:=by unfold idxN;rw [idxS_out v s 0 h];rfl
theorem contains_eq (s:List Str) (v:Str):F_2h s v=some (decide (v∈s)):=by
 unfold F_2h
 rw [Index_eq,Option.bind_some]
 by_cases h:v∈s
 ·obtain ⟨i,e,_⟩:=idxN_in h
  rw [e,decide_eq_true h,decide_eq_true (by omega)]
 ·rw [idxN_out h,decide_eq_false h];rfl
def isN (c:GCommand):Bool:=decide (c.Kind=1)||decide (c.Kind=2)
def nms (l:List GCommand):List Str:=(l.filter isN).map (·.Name)
def kds (l:List GCommand):List Int:=(l.filter isN).map (·.Kind)
theorem intro_lp:∀(l:List GCommand) (k:Int) (a:List Str) (b:List Int),a.length+l.length≤100000→b.length+l.length≤100000→foldL F_1w l k (a,b)=some (a++nms l,b++kds l)
 | [],_,a,b,_,_=>by simp [foldL,nms,kds]
 | c::r,k,a,b,h1,h2=>by
  simp only [List.length_cons] at h1 h2
  have r1:room (b.length+1) 8=true:=room_iff.2 (by omega)
  have r2:room (a.length+1) 16=true:=room_iff.2 (by omega)
  by_cases e1:c.Kind=1
  ·simp only [foldL,F_1w,decide_eq_true e1,cond_true,List.length_cons,List.length_nil,Nat.zero_add]
   rw [chk_true r1,chk_true r2,Option.bind_some,intro_lp r _ _ _ (by simp;omega) (by simp;omega)]
   simp [nms,kds,isN,e1]
  ·by_cases e2:c.Kind=2
   ·simp only [foldL,F_1w,decide_eq_false e1,decide_eq_true e2,cond_true,cond_false,List.length_cons,List.length_nil,Nat.zero_add]
    rw [chk_true r1,chk_true r2,Option.bind_some,intro_lp r _ _ _ (by simp;omega) (by simp;omega)]
    simp [nms,kds,isN,e2]
   ·simp only [foldL,F_1w,decide_eq_false e1,decide_eq_false e2,cond_false,Option.bind_some]
    rw [intro_lp r _ _ _ (by omega) (by omega)]
    simp [nms,kds,isN,e1,e2]
theorem introduce_eq {l:List GCommand} (h:l.length≤1000):F_1x l=some (kds l,nms l):=by
 unfold F_1x
 rw [intro_lp l 0 [] [] (by simp;omega) (by simp;omega)]
 simp
def cntS (s:List Str):Nat:=(Go.Lib.compact (s.mergeSort fun x y=>decide (x≤y))).length
theorem collectV:∀(xs acc:List Str) (k:Int),acc.length+xs.length≤1000000→forL F_3o xs k acc=some (.nx (acc++xs))
 | [],acc,k,_=>by simp [forL]
 | x::r,acc,k,h=>by
  simp only [List.length_cons] at h
  simp only [forL,F_3o]
  rw [chk_true (room_iff.2 (by simp only [List.length_cons,List.length_nil];omega))]
  simp only [Option.bind_some,Fl.elim]
  rw [collectV r _ _ (by simp;omega)]
  simp
theorem sorted_eq {s:List Str} (h:s.length≤1000):F_1y s=some (s.mergeSort fun x y=>decide (x≤y)):=by
 unfold F_1y F_2z F_2y
 rw [collectV s [] 0 (by simp;omega)]
 simp only [Option.bind_some,Fl.elim,List.nil_append]
 unfold sortS
 rw [chk_true (decide_eq_true (by omega))];rfl
def missB (ns:List Str) (c:GCommand):Bool:=(!decide (c.Name=[])&&!decide (c.Name∈ns))||(!decide (c.Other=[])&&!decide (c.Other∈ns))
theorem miss1 (s:Str) (ns:List Str):F_1z s ns=some (!decide (s=[])&&!decide (s∈ns)):=by
 unfold F_1z
 rw [contains_eq]
 cases decide (s=[])<;>simp [jn]
theorem miss_eq (c:GCommand) (ns:List Str):F_2i c ns=some (missB ns c):=by
 unfold F_2i missB
 rw [miss1,miss1]
 simp only [Option.bind_some,jn]
 cases (!decide (c.Name=[])&&!decide (c.Name∈ns))<;>simp
theorem miss_lp (ns:List Str):∀(l:List GCommand) (k:Int),0≤k→∃o,forL (F_31 ns) l k ()=some o∧o.elim (fun _=>l.any (missB ns)=false) (fun j=>0≤j∧l.any (missB ns)=true)
 | [],_,_=>⟨_,rfl,rfl⟩
 | c::r,k,h=>by
  simp only [forL,F_31,miss_eq,Option.bind_some,List.any_cons]
  cases missB ns c with
  | true=>exact ⟨.ex k,rfl,h,rfl⟩
  | false =>
   obtain ⟨o,h1,h2⟩:=miss_lp ns r (k+1) (by omega)
   exact ⟨o,h1,by simpa using h2⟩
theorem missing_eq (l:List GCommand) (ns:List Str):F_20 l ns=some (l.any (missB ns)):=by
 unfold F_20 F_32
 obtain ⟨o,h1,h2⟩:=miss_lp ns l 0 (by omega)
 rw [h1,Option.bind_some]
 cases o with
 | nx u =>
  have h2:l.any (missB ns)=false:=h2
  rw [h2];rfl
 | ex j =>
  obtain ⟨h3,h4⟩:=(h2:0≤j∧l.any (missB ns)=true)
  rw [h4]
  simp [Fl.elim,h3]
theorem clone_eq {l:List GCommand} (h:l≠[]) (hl:l.length≤1000):F_19 l=some l:=by
 unfold F_19
 rw [amb_eq (by intro e;exact absurd (List.isEmpty_iff.1 e) h),chk_true (room_iff.2 (by simp only [List.length_nil];omega))]
 rfl
end Go.Ab
set_option maxRecDepth 20000
namespace Go.Ab
open Go.Proofs
def isD (c:GCommand):Bool:=decide (c.Kind=3)||decide (c.Kind=4)
def isA (c:GCommand):Bool:=decide (5≤c.Kind)&&decide (c.Kind≤9)
def memE (ns:List Str) (c:GCommand):GMember:=⟨c.Time,(1+c.Kind) - 3,idxN ns c.Name,idxN ns c.Other⟩
def accE (ns:List Str) (c:GCommand):GAccess :=
 bif decide (c.Kind≤6) then ⟨c.Time,(1+c.Kind) - 5,c.A,idxN ns c.Name,0,0,0⟩ else
 bif decide (c.Kind=7) then ⟨c.Time,3,c.A,0,c.B,0,0⟩ else
 bif decide (c.Kind=8) then ⟨c.Time,5,c.B,0,0,c.A,0⟩ else ⟨c.Time,7,c.B,0,0,0,c.A⟩
def evD (ns:List Str) (l:List GCommand):List GMember:=(l.filter isD).map (memE ns)
def evA (ns:List Str) (l:List GCommand):List GAccess:=(l.filter isA).map (accE ns)
theorem event_eq {c:GCommand} {ns:List Str} {d:GDirectory} {a:GEstate} (hk:1≤c.Kind∧c.Kind≤11) (h1:d.Events.length≤1000) (h2:a.Events.length≤1000) :
  F_21 c ns d a=some (⟨d.Kinds,d.Events++evD ns [c]⟩,⟨a.Places,a.Events++evA ns [c]⟩):=by
 have r1:room (d.Events.length+1) 32=true:=room_iff.2 (by omega)
 have r2:room (a.Events.length+1) 56=true:=room_iff.2 (by omega)
 have i1:in64 (1+c.Kind)=true:=in64_s (by omega) (by omega)
 have i2:in64 ((1+c.Kind) - 3)=true:=in64_s (by omega) (by omega)
 have i3:in64 ((1+c.Kind) - 5)=true:=in64_s (by omega) (by omega)
 unfold F_21
 rw [Index_eq,Index_eq]
 simp only [Option.bind_some,List.length_cons,List.length_nil,Nat.zero_add,chk_true r1,chk_true r2,chk_true i1,chk_true i2,chk_true i3]
 rcases kinds hk.1 hk.2 with h|h|h|h|h|h|h|h|h|h|h<;>simp [jn,h,evD,evA,isD,isA,memE,accE]
theorem make_lp {y:List Int×List Str}:∀(r:List GCommand) (k:Int) (p:Int) (ae:List GAccess) (ks:List Int) (de:List GMember),(∀c∈r,1≤c.Kind∧c.Kind≤11)→ae.length+r.length≤1000→de.length+r.length≤1000 →
  foldL (F_t y) r k (p,ae,ks,de)=some (p,ae++evA y.2 r,ks,de++evD y.2 r)
 | [],_,p,ae,ks,de,_,_,_=>by simp [foldL,evA,evD]
 | c::r,k,p,ae,ks,de,h,h1,h2=>by
  simp only [List.length_cons] at h1 h2
  have la:(evA y.2 [c]).length≤1:=by unfold evA;rw [List.length_map];exact List.length_filter_le _ _
  have ld:(evD y.2 [c]).length≤1:=by unfold evD;rw [List.length_map];exact List.length_filter_le _ _
  simp only [foldL,F_t]
  rw [event_eq (h c (by simp)) (by simp only;omega) (by simp only;omega)]
  simp only [Option.bind_some]
  rw [make_lp r (k+1) p _ ks _ (fun x hx=>h x (List.mem_cons_of_mem _ hx)) (by rw [List.length_append];omega) (by rw [List.length_append];omega)]
  have ea:evA y.2 (c::r)=evA y.2 [c]++evA y.2 r:=by unfold evA;rw [←List.map_append,←List.filter_append];rfl
  have ed:evD y.2 (c::r)=evD y.2 [c]++evD y.2 r:=by unfold evD;rw [←List.map_append,←List.filter_append];rfl
  rw [ea,ed,List.append_assoc,List.append_assoc]
structure GS (x:List GCommand):Prop where
 sc:Sc x
 ne:x≠[]
 n:x.length≤19
 once:(nms x).length≤cntS (nms x)
 few:(nms x).length≤24
 miss:x.any (missB (nms x))=false
 d:∀c∈x,isD c=true→EvD (kds x) (memE (nms x) c)
 a:∀c∈x,isA c=true→EvA (accE (nms x) c)
theorem nms_len (x:List GCommand):(nms x).length≤x.length:=by unfold nms;rw [List.length_map];exact List.length_filter_le _ _
theorem kds_mem {x:List GCommand} {k:Int} (h:k∈kds x):1≤k∧k≤3:=by
 unfold kds at h
 obtain ⟨c,hc,rfl⟩:=List.mem_map.1 h
 have:=(List.mem_filter.1 hc).2
 simp [isN] at this
 omega
theorem accE_time (ns:List Str) (c:GCommand):(accE ns c).Time=c.Time:=by
 unfold accE
 cases decide (c.Kind≤6)<;>cases decide (c.Kind=7)<;>cases decide (c.Kind=8)<;>rfl
theorem evD_srt {ns:List Str} {r:List GCommand} (h:byT r):(evD ns r).Pairwise fun a b=>a.Time≤b.Time:=by
 unfold evD
 rw [List.pairwise_map]
 exact List.Pairwise.filter _ h
theorem evA_srt {ns:List Str} {r:List GCommand} (h:byT r):(evA ns r).Pairwise fun a b=>a.Time≤b.Time:=by
 unfold evA
 rw [List.pairwise_map]
 exact (List.Pairwise.filter _ h).imp fun {a b} e=>by rw [accE_time,accE_time];exact e
theorem Make_eq {x:List GCommand} (h:GS x):F_1 x=some (⟨kds x,evD (nms x) (srt x)⟩,⟨16,evA (nms x) (srt x)⟩,nms x,0):=by
 have hn:=h.n
 have hnl:=nms_len x
 have ht:∀c∈x,tOK c:=fun c hc=>by have:=(h.sc.vc c hc).t;exact ⟨this.1,by omega⟩
 obtain ⟨es,hs⟩:=Stable_eq h.ne hn ht
 have hm:∀c,c∈srt x↔c∈x:=fun c=>hs.p.mem_iff
 have hsl:(srt x).length=x.length:=hs.p.length_eq
 have e1:decide (((cntS (nms x):Nat):Int)<((nms x).length:Int))=false:=decide_eq_false (by have:=h.once;omega)
 have e2:decide (24<((nms x).length:Int))=false:=decide_eq_false (by have:=h.few;omega)
 have ec:compactS ((nms x).mergeSort fun x y=>decide (x≤y))=some (cntS (nms x),Go.Lib.compact ((nms x).mergeSort fun x y=>decide (x≤y))++List.replicate (((nms x).mergeSort fun x y=>decide (x≤y)).length - (Go.Lib.compact ((nms x).mergeSort fun x y=>decide (x≤y))).length) []):=by
  unfold compactS
  rw [chk_true (decide_eq_true (by rw [List.length_mergeSort];omega))];rfl
 have la:(evA (nms x) (srt x)).length≤19:=by unfold evA;rw [List.length_map];exact Nat.le_trans (List.length_filter_le _ _) (by omega)
 have ld:(evD (nms x) (srt x)).length≤19:=by unfold evD;rw [List.length_map];exact Nat.le_trans (List.length_filter_le _ _) (by omega)
 have hd:F_5 ⟨kds x,evD (nms x) (srt x)⟩=some 0:=dcheck (fun k hk=>kds_mem hk) (by have:=h.few;unfold kds;rw [List.length_map];unfold nms at this;rw [List.length_map] at this;exact this) (by simp only;omega) (fun e he=>by
  obtain ⟨c,hc,rfl⟩:=List.mem_map.1 he
  have hc':=List.mem_filter.1 hc
  exact h.d c ((hm c).1 hc'.1) hc'.2) (evD_srt hs.s)
 have ha:F_3 ⟨16,evA (nms x) (srt x)⟩=some 0:=acheck (by omega) (fun e he=>by
  obtain ⟨c,hc,rfl⟩:=List.mem_map.1 he
  have hc':=List.mem_filter.1 hc
  exact h.a c ((hm c).1 hc'.1) hc'.2) (evA_srt hs.s)
 unfold F_1
 rw [check_eq h.sc,Option.bind_some,decide_eq_true rfl,Bool.not_true,cond_false,introduce_eq (by omega),Option.bind_some]
 simp only [valsF,Option.bind_some]
 rw [sorted_eq (by omega),Option.bind_some,ec,Option.bind_some]
 simp only [e1,cond_false]
 rw [missing_eq,h.miss,Option.bind_some,cond_false,e2,cond_false,clone_eq h.ne (by omega),Option.bind_some,es,Option.bind_some]
 rw [make_lp (y:=(kds x,nms x)) (srt x) 0 16 [] (kds x) [] (fun c hc=>by have:=h.sc.vc c ((hm c).1 hc);exact ⟨this.k0,this.k1⟩) (by simp;omega) (by simp;omega)]
 simp only [Option.bind_some,List.nil_append,hd,ha,decide_true,Bool.not_true,cond_false]
end Go.Ab
set_option maxRecDepth 20000
namespace Go.Ab
open Go.Proofs
noncomputable def mkD (x:List GCommand):GDirectory:=⟨kds x,evD (nms x) (srt x)⟩
noncomputable def mkE (x:List GCommand):GEstate:=⟨16,evA (nms x) (srt x)⟩
theorem kn_len (x:List GCommand):(kds x).length=(nms x).length:=by simp [kds,nms]
theorem GS.tok {x:List GCommand} (h:GS x):∀c∈x,tOK c:=fun c hc=>by have:=(h.sc.vc c hc).t;exact ⟨this.1,by omega⟩
theorem GS.srt {x:List GCommand} (h:GS x):Srt x (srt x):=(Stable_eq h.ne h.n h.tok).2
theorem GS.gd {x:List GCommand} (h:GS x):GoodD (mkD x):=by
 have hs:=h.srt
 have hl:=hs.p.length_eq
 have hn:=h.n
 refine ⟨by have:=h.few;show (kds x).length≤24;rw [kn_len];exact this,?_,fun k hk=>kds_mem hk,fun e he=>?_,evD_srt hs.s⟩
 ·show (evD _ _).length≤120
  unfold evD
  rw [List.length_map]
  exact Nat.le_trans (List.length_filter_le _ _) (by omega)
 ·obtain ⟨c,hc,rfl⟩:=List.mem_map.1 he
  have hc':=List.mem_filter.1 hc
  obtain ⟨k,t,p,g,u,n⟩:=h.d c (hs.p.mem_iff.1 hc'.1) hc'.2
  exact ⟨k,t.1,by omega,p,⟨g.1,g.2,u⟩,n⟩
theorem GS.ga {x:List GCommand} (h:GS x):Good (mkE x):=by
 have hs:=h.srt
 have hl:=hs.p.length_eq
 have hn:=h.n
 refine ⟨by show (1:Int)≤16;omega,by show (16:Int)≤16;omega,?_,fun e he=>?_,evA_srt hs.s⟩
 ·show (evA _ _).length≤120
  unfold evA
  rw [List.length_map]
  exact Nat.le_trans (List.length_filter_le _ _) (by omega)
 ·obtain ⟨c,hc,rfl⟩:=List.mem_map.1 he
  have hc':=List.mem_filter.1 hc
  obtain ⟨t,p,k⟩:=h.a c (hs.p.mem_iff.1 hc'.1) hc'.2
  refine ⟨t.1,by omega,p.1,by show _≤(16:Int) - 1;omega,?_⟩
  rcases k with ⟨a,b,c,d,e⟩|⟨a,b,c,d,e⟩|⟨a,b,c,d,e⟩|⟨a,b,c,d,e,f⟩
  ·exact .inl ⟨a,b.1,b.2,c,d,e⟩
  ·exact .inr (.inl ⟨a,b.1,by omega,c,d,e⟩)
  ·exact .inr (.inr (.inr (.inl ⟨.inl a,b.1,b.2,c,d,e⟩)))
  ·exact .inr (.inr (.inr (.inr ⟨a,b.1,by show _≤(16:Int) - 1;omega,c,d,e,f⟩)))
noncomputable def whoT (x:List GCommand) (c:GCommand):Str :=
 (bif (lkf c.A c.Time (mkE x).Events 0 (0,false)).2 then [112,117,98,108,105,99] else [105,110,115,105,100,101])++(mays (mkD x) (mkE x) c.A c.Time).flatMap fun p=>32::(nms x).getD p.toNat default
noncomputable def sinT (x:List GCommand) (c:GCommand):Str:=match sin (mkD x) (mkE x) c.A (idxN (nms x) c.Name) with
 | some t=>Lib.itoa t
 | none=>[110,101,118,101,114]
noncomputable def ans (x:List GCommand) (c:GCommand):Str :=
 bif decide (c.Kind=10) then whoT x c++[10] else bif decide (c.Kind=11) then sinT x c++[10] else []
theorem nms_short {x:List GCommand} (h:GS x) (i:Nat):((nms x).getD i default).length≤12:=by
 by_cases hi:i<(nms x).length
 ·rw [List.getD_eq_getElem?_getD,List.getElem?_eq_getElem hi]
  have hm:(nms x)[i]∈nms x:=List.getElem_mem hi
  obtain ⟨c,hc,e⟩:=List.mem_map.1 hm
  have:=(h.sc.vc c (List.mem_filter.1 hc).1).n
  simp only [Option.getD_some]
  rw [←e];exact this
 ·rw [List.getD_eq_getElem?_getD,List.getElem?_eq_none (by omega)]
  exact Nat.zero_le _
theorem who_lp (ns:List Str) (hn:∀i:Nat,(ns.getD i default).length≤12):∀(ps:List Int) (k:Int) (s:Str),(∀p∈ps,0≤p∧p<ns.length)→s.length+13*ps.length≤100000 →
  foldL (F_22 ns) ps k s=some (s++ps.flatMap fun p=>32::ns.getD p.toNat default)
 | [],_,s,_,_=>by simp [foldL]
 | p::r,k,s,h,hl=>by
  simp only [List.length_cons] at hl
  have hp:=h p (by simp)
  have h1:=hn p.toNat
  simp only [foldL,F_22]
  rw [chk_true (inb_iff.2 ⟨hp.1,by omega⟩),chk_true (strl_iff.2 (by simp only [List.length_cons,List.length_nil];omega)),chk_true (strl_iff.2 (by simp only [List.length_append,List.length_cons,List.length_nil];omega)),Option.bind_some]
  rw [who_lp ns hn r _ _ (fun q hq=>h q (List.mem_cons_of_mem _ hq)) (by simp only [List.length_append,List.length_cons,List.length_nil];omega)]
  simp
theorem mays_in {d:GDirectory} {a:GEstate} {pl t:Int}:(∀p∈mays d a pl t,0≤p∧p<d.Kinds.length)∧(mays d a pl t).length≤d.Kinds.length:=by
 refine ⟨fun p hp=>?_,?_⟩
 ·have:=(mem_mays.1 hp).1.1
  exact ⟨this.1,this.2.1⟩
 ·unfold mays
  rw [List.length_map]
  exact Nat.le_trans (List.length_filter_le _ _) (by simp)
theorem flat13 (ns:List Str) (hn:∀i:Nat,(ns.getD i default).length≤12):∀ps:List Int,(ps.flatMap fun p=>32::ns.getD p.toNat default).length≤13*ps.length
 | []=>by simp
 | p::r=>by
  have h1:=hn p.toNat
  have ih:=flat13 ns hn r
  simp only [List.flatMap_cons,List.length_append,List.length_cons]
  omega
theorem who_line {x:List GCommand} (h:GS x) {c:GCommand} (hA:0≤c.A∧c.A≤15):F_1c c (mkD x) (mkE x) (nms x)=some (whoT x c)∧(whoT x c).length≤400:=by
 have hm:=mays_in (d:=mkD x) (a:=mkE x) (pl:=c.A) (t:=c.Time)
 have hk:(mkD x).Kinds.length=(nms x).length:=kn_len x
 have hf:=h.few
 have hfl:=flat13 (nms x) (nms_short h) (mays (mkD x) (mkE x) c.A c.Time)
 constructor
 ·unfold F_1c whoT
  rw [who_eq h.gd h.ga c.Time hA.1 (by show c.A≤(16:Int) - 1;omega),Option.bind_some]
  simp only
  cases (lkf c.A c.Time (mkE x).Events 0 (0,false)).2 with
  | true =>
   simp only [cond_true,jn,Option.bind_some]
   rw [who_lp (nms x) (nms_short h) _ _ _ (fun p hp=>by have:=hm.1 p hp;omega) (by simp only [List.length_cons,List.length_nil];omega)];rfl
  | false =>
   simp only [cond_false,jn,Option.bind_some]
   rw [who_lp (nms x) (nms_short h) _ _ _ (fun p hp=>by have:=hm.1 p hp;omega) (by simp only [List.length_cons,List.length_nil];omega)];rfl
 ·unfold whoT
  cases (lkf c.A c.Time (mkE x).Events 0 (0,false)).2<;>simp only [cond_true,cond_false,List.length_append,List.length_cons,List.length_nil]<;>omega
theorem sin_line {x:List GCommand} (h:GS x) {c:GCommand} (hA:0≤c.A∧c.A≤63) :
  ((F_d (nms x) c.Name).bind fun y183=>(F_q (mkD x) (mkE x) c.A y183).bind fun y184=>bif y184.2 then (itoaI y184.1).bind fun y185=>some y185 else some [110,101,118,101,114])=some (sinT x c)∧(sinT x c).length≤30:=by
 rw [Index_eq,Option.bind_some,Since_eq h.gd h.ga hA.1 hA.2,Option.bind_some]
 unfold sinT
 cases hs:sin (mkD x) (mkE x) c.A (idxN (nms x) c.Name) with
 | none=>simp [fst0]
 | some t =>
  have hm:t∈tms (mkD x) (mkE x):=List.mem_of_find?_eq_some hs
  have hb:0≤t∧t≤1099511627776:=by
   rcases mem_tms.1 hm with ⟨e,he,rfl⟩|⟨e,he,rfl⟩
   ·have:=h.ga.ev e he;exact ⟨this.1,this.2.1⟩
   ·have:=h.gd.ev e he;exact ⟨this.2.1,this.2.2.1⟩
  have hi:in64 t=true:=in64_iff.2 (by omega)
  have hl:=Lib.itoa_length_le t (by omega) (by omega)
  have ei:itoaI t=some (Lib.itoa t):=chk_true hi
  simp only [fst0,cond_true,ei,Option.bind_some]
  exact ⟨trivial,by omega⟩
end Go.Ab
set_option maxRecDepth 20000
namespace Go.Ab
open Go.Proofs
theorem ask_who {c:GCommand} (h:VC c) (hk:c.Kind=10):0≤c.A∧c.A≤15:=by
 have:=h.ok (.fa 16) (by rw [hk];simp [kindOf,wordsK])
 have:=(rgb_iff▸this:0≤c.A∧c.A<16)
 omega
theorem ask_sin {c:GCommand} (h:VC c) (hk:c.Kind=11):0≤c.A∧c.A≤63:=by
 have:=h.ok (.fa 64) (by rw [hk];simp [kindOf,wordsK])
 have:=(rgb_iff▸this:0≤c.A∧c.A<64)
 omega
theorem ans_len {x:List GCommand} (h:GS x) {c:GCommand} (hc:VC c):(ans x c).length≤401:=by
 unfold ans
 by_cases e1:c.Kind=10
 ·have:=(who_line h (ask_who hc e1)).2
  rw [decide_eq_true e1,cond_true];simp;omega
 ·by_cases e2:c.Kind=11
  ·have:=(sin_line h (ask_sin hc e2)).2
   rw [decide_eq_false e1,cond_false,decide_eq_true e2,cond_true];simp;omega
  ·rw [decide_eq_false e1,cond_false,decide_eq_false e2];simp
theorem run_lp {x:List GCommand} (h:GS x):∀(l:List GCommand) (k:Int) (s:Str),(∀c∈l,VC c)→s.length+401*l.length≤1000000 →
  foldL (F_g (mkD x,mkE x,nms x,0)) l k s=some (s++l.flatMap (ans x))
 | [],_,s,_,_=>by simp [foldL]
 | c :: r,k,s,hv,hl=>by
  simp only [List.length_cons] at hl
  have hc:=hv c (by simp)
  have ha:=ans_len h hc
  have hb:F_g (mkD x,mkE x,nms x,0) k c s=some (s++ans x c):=by
   have bw:∀t:Str,t.length≤401→bws s t=some (s++t):=fun t ht=>by unfold bws;exact chk_true (room_iff.2 (by omega))
   unfold F_g
   unfold ans at ha ⊢
   by_cases e1:c.Kind=10
   ·obtain ⟨w1,w2⟩:=who_line h (ask_who hc e1)
    rw [decide_eq_true e1] at ha ⊢
    simp only [cond_true,w1,Option.bind_some] at ha ⊢
    rw [chk_true (strl_iff.2 (by simp only [List.length_cons,List.length_nil];omega)),bw _ ha];rfl
   ·by_cases e2:c.Kind=11
    ·obtain ⟨w1,w2⟩:=sin_line h (ask_sin hc e2)
     rw [decide_eq_false e1,decide_eq_true e2] at ha ⊢
     simp only [cond_false,cond_true] at ha ⊢
     refine (congrArg (fun o=>jn o _) w1).trans ?_
     simp only [jn,Option.bind_some]
     rw [chk_true (strl_iff.2 (by simp only [List.length_cons,List.length_nil];omega)),bw _ ha];rfl
    ·rw [decide_eq_false e1,decide_eq_false e2];simp
  simp only [foldL,hb,Option.bind_some]
  rw [run_lp h r (k+1) _ (fun c hc=>hv c (List.mem_cons_of_mem _ hc)) (by rw [List.length_append];omega)]
  simp
theorem Run_eq {x:List GCommand} (h:GS x):F_h x=some (x.flatMap (ans x),0):=by
 have hn:=h.n
 unfold F_h
 rw [Make_eq h,Option.bind_some]
 simp only [decide_true,Bool.not_true,cond_false]
 have:=run_lp h x 0 [] h.sc.vc (by simp;omega)
 unfold mkD mkE at this
 rw [this]
 simp [bstr]
end Go.Ab
set_option maxRecDepth 20000
namespace Go.Ab
open Go.Proofs
abbrev nZoe:Str:=[122,111,101]
theorem cnt4:cntS nm4=4:=by
 unfold cntS
 simp [List.mergeSort,List.MergeSort.Internal.splitInTwo,List.merge]
 rw [if_pos (by decide),if_pos (by decide)]
 have e:[nAnn,nOps].merge [nBob,nDev] (fun x y=>decide (x≤y))=[nAnn,nBob,nDev,nOps]:=by
  rw [List.cons_merge_cons,if_pos (by decide),List.cons_merge_cons,if_neg (by decide),List.cons_merge_cons,if_neg (by decide),List.merge_right]
 rw [e]
 decide
structure N4 (ns:List Str) (ks:List Int):Prop where
 i0:idxN ns nAnn=0
 i1:idxN ns nOps=1
 i2:idxN ns nBob=2
 i3:idxN ns nDev=3
 l:4≤ks.length∧ks.length≤24
 k1:ks.getD 1 default=2
 k3:ks.getD 3 default=2
theorem N4.idx {ns:List Str} {ks:List Int} (h:N4 ns ks) {s:Str} (hs:s∈nm4):0≤idxN ns s∧idxN ns s<4:=by
 simp at hs
 rcases hs with rfl|rfl|rfl|rfl
 ·rw [h.i0];omega
 ·rw [h.i1];omega
 ·rw [h.i2];omega
 ·rw [h.i3];omega
theorem N4.inj {ns:List Str} {ks:List Int} (h:N4 ns ks) {s t:Str} (hs:s∈nm4) (ht:t∈nm4) (e:idxN ns s=idxN ns t):s=t:=by
 simp at hs ht
 rcases hs with rfl|rfl|rfl|rfl<;>rcases ht with rfl|rfl|rfl|rfl<;>first|rfl|(simp only [h.i0,h.i1,h.i2,h.i3] at e;omega)
theorem sc_d {ns:List Str} {ks:List Int} (h:N4 ns ks) {c:GCommand} (m:SC c) (hd:isD c=true):EvD ks (memE ns c):=by
 have hk:c.Kind=3∨c.Kind=4:=by simpa [isD] using hd
 have mj:=m.m.j hk
 have mo:=m.j hk
 have mt:=m.m.t
 have hl:=h.l
 have g:=h.idx mj.2.1
 have p:=h.idx mj.1
 refine ⟨by show (1+c.Kind) - 3=1∨(1+c.Kind) - 3=2;omega,⟨mt.1,by show c.Time≤_;omega⟩,⟨p.1,by show idxN ns c.Name<_;omega⟩,⟨g.1,by show idxN ns c.Other<_;omega⟩,?_,fun e=>mo.2 (h.inj mj.1 mj.2.1 e)⟩
 show ks.getD (idxN ns c.Other).toNat default=2
 rcases mo.1 with e|e<;>rw [e]
 ·rw [h.i1];exact h.k1
 ·rw [h.i3];exact h.k3
theorem sc_a {ns:List Str} {ks:List Int} (h:N4 ns ks) {c:GCommand} (m:SC c) (hd:isA c=true):EvA (accE ns c):=by
 have hk:5≤c.Kind∧c.Kind≤9:=by simpa [isA] using hd
 have mt:=m.m.t
 have ma:=m.m.a
 have mb:=m.m.b
 have hk':c.Kind=5∨c.Kind=6∨c.Kind=7∨c.Kind=8∨c.Kind=9:=by omega
 refine ⟨by rw [accE_time];omega,?_,?_⟩
 ·rcases hk' with e|e|e|e|e<;>simp only [accE,e]<;>simp
  ·omega
  ·omega
  ·omega
  ·have:=(m.m.p (.inl e)).2.2;omega
  ·have:=(m.m.p (.inr e)).2.2;omega
 ·rcases hk' with e|e|e|e|e<;>simp only [accE,e]<;>simp
  ·have:=h.idx (m.m.g (.inl e)).1;omega
  ·have:=h.idx (m.m.g (.inr e)).1;omega
  ·have:=m.o e;omega
  ·omega
  ·have:=m.p e;omega
theorem sc_miss {ns:List Str} (hs:∀s∈nm4,s∈ns) {c:GCommand} (m:SC c):missB ns c=false:=by
 have mk:=m.m.k
 have m3:=m.k
 have hk:c.Kind=3∨c.Kind=4∨c.Kind=5∨c.Kind=6∨c.Kind=7∨c.Kind=8∨c.Kind=9∨c.Kind=10∨c.Kind=11:=by omega
 have key:(c.Name=[]∨c.Name∈ns)∧(c.Other=[]∨c.Other∈ns):=by
  rcases hk with e|e|e|e|e|e|e|e|e
  ·have:=m.m.j (.inl e);exact ⟨.inr (hs _ this.1),.inr (hs _ this.2.1)⟩
  ·have:=m.m.j (.inr e);exact ⟨.inr (hs _ this.1),.inr (hs _ this.2.1)⟩
  ·have:=m.m.g (.inl e);exact ⟨.inr (hs _ this.1),.inl this.2.1⟩
  ·have:=m.m.g (.inr e);exact ⟨.inr (hs _ this.1),.inl this.2.1⟩
  ·have:=m.m.o e;exact ⟨.inl this.1,.inl this.2⟩
  ·have:=m.m.p (.inl e);exact ⟨.inl this.1,.inl this.2.1⟩
  ·have:=m.m.p (.inr e);exact ⟨.inl this.1,.inl this.2.1⟩
  ·have:=m.m.q e;exact ⟨.inl this.1,.inl this.2.1⟩
  ·have:=m.m.s e;exact ⟨.inr (hs _ this.1),.inl this.2.1⟩
 unfold missB
 obtain ⟨h1,h2⟩:=key
 rcases h1 with h1|h1<;>rcases h2 with h2|h2<;>simp [h1,h2]
theorem nm4_ok:∀n∈nm4,namedB n 12=true:=by
 intro n hn
 simp at hn
 rcases hn with rfl|rfl|rfl|rfl<;>rfl
theorem SC.valid {c:GCommand} (m:SC c):validB c=true:=mc_5z nm4_ok m.m
theorem SC.noN {c:GCommand} (m:SC c):isN c=false:=by
 have:=m.k
 simp [isN];omega
theorem filter_noN:∀{r:List GCommand},(∀c∈r,SC c)→r.filter isN=[]
 | [],_=>rfl
 | c::r,h=>by
  rw [List.filter_cons,(h c (by simp)).noN]
  exact filter_noN fun x hx=>h x (List.mem_cons_of_mem _ hx)
end Go.Ab
set_option maxRecDepth 20000
namespace Go.Ab
open Go.Proofs
theorem mrg3:([nAnn,nOps].merge [nBob] fun x y=>decide (x≤y))=[nAnn,nBob,nOps]:=by
 rw [List.cons_merge_cons,if_pos (by decide),List.cons_merge_cons,if_neg (by decide),List.merge_right]
theorem cnt5z:cntS (nm4++[nZoe])=5:=by
 unfold cntS
 simp [List.mergeSort,List.MergeSort.Internal.splitInTwo,List.merge]
 rw [if_pos (by decide),if_pos (by decide),mrg3]
 have e:([nAnn,nBob,nOps].merge [nDev,nZoe] fun x y=>decide (x≤y))=[nAnn,nBob,nDev,nOps,nZoe]:=by
  rw [List.cons_merge_cons,if_pos (by decide),List.cons_merge_cons,if_pos (by decide),List.cons_merge_cons,if_neg (by decide),List.cons_merge_cons,if_pos (by decide),List.nil_merge]
 rw [e]
 decide
theorem cnt5a:cntS (nm4++[nAnn])=4:=by
 unfold cntS
 simp [List.mergeSort,List.MergeSort.Internal.splitInTwo,List.merge]
 rw [if_pos (by decide),if_neg (by decide),mrg3]
 have e:([nAnn,nBob,nOps].merge [nAnn,nDev] fun x y=>decide (x≤y))=[nAnn,nAnn,nBob,nDev,nOps]:=by
  rw [List.cons_merge_cons,if_pos (by decide),List.cons_merge_cons,if_neg (by decide),List.cons_merge_cons,if_pos (by decide),List.cons_merge_cons,if_neg (by decide),List.merge_right]
 rw [e]
 decide
theorem Make_front {x:List GCommand} (h:Sc x) (hn:x.length≤19):∃z,compactS ((nms x).mergeSort fun x y=>decide (x≤y))=some (cntS (nms x),z):=by
 have hnl:=nms_len x
 exact ⟨_,by unfold compactS;rw [chk_true (decide_eq_true (by rw [List.length_mergeSort];omega))];rfl⟩
theorem Make_twice {x:List GCommand} (h:Sc x) (hn:x.length≤19) (h2:cntS (nms x)<(nms x).length):F_1 x=some (⟨[],[]⟩,⟨0,[]⟩,[],7):=by
 have hnl:=nms_len x
 obtain ⟨z,ec⟩:=Make_front h hn
 unfold F_1
 rw [check_eq h,Option.bind_some,decide_eq_true rfl,Bool.not_true,cond_false,introduce_eq (by omega),Option.bind_some]
 simp only [valsF,Option.bind_some]
 rw [sorted_eq (by omega),Option.bind_some,ec,Option.bind_some]
 simp only
 rw [decide_eq_true (by omega),cond_true]
 rfl
theorem Make_miss {x:List GCommand} (h:Sc x) (hn:x.length≤19) (h2:(nms x).length≤cntS (nms x)) (h3:x.any (missB (nms x))=true):F_1 x=some (⟨[],[]⟩,⟨0,[]⟩,[],6):=by
 have hnl:=nms_len x
 obtain ⟨z,ec⟩:=Make_front h hn
 unfold F_1
 rw [check_eq h,Option.bind_some,decide_eq_true rfl,Bool.not_true,cond_false,introduce_eq (by omega),Option.bind_some]
 simp only [valsF,Option.bind_some]
 rw [sorted_eq (by omega),Option.bind_some,ec,Option.bind_some]
 simp only
 rw [decide_eq_false (by omega),cond_false,missing_eq,h3,Option.bind_some,cond_true]
 rfl
theorem four_ok:∀c∈four,validB c=true∧(∀ns:List Str,(∀s∈nm4,s∈ns)→missB ns c=false)∧isD c=false∧isA c=false:=by
 intro c hc
 have key:∀{n:Str} {k:Int},n∈nm4→∀ns:List Str,(∀s∈nm4,s∈ns)→missB ns ⟨k,n,[],0,0,0⟩=false:=fun hn ns h=>by
  have:=h _ hn
  simp [missB,this]
 simp at hc
 rcases hc with rfl|rfl|rfl|rfl
 ·exact ⟨by decide,key (by simp),rfl,rfl⟩
 ·exact ⟨by decide,key (by simp),rfl,rfl⟩
 ·exact ⟨by decide,key (by simp),rfl,rfl⟩
 ·exact ⟨by decide,key (by simp),rfl,rfl⟩
theorem nms_four {r e:List GCommand} (h:∀c∈r,SC c):nms (four++r++e)=nm4++nms e∧kds (four++r++e)=[1,2,1,2]++kds e:=by
 unfold nms kds
 rw [List.filter_append,List.filter_append,filter_noN h]
 exact ⟨by simp [isN],by simp [isN]⟩
theorem gs_zoe {r e:List GCommand} (hr:r.length≤13) (h:∀c∈r,SC c) (hl:e.length≤2) (en:nms e=[nZoe]) (ek:kds e=[1]) (he:∀c∈e,validB c=true∧missB (nm4++[nZoe]) c=false∧isD c=false∧isA c=false):GS (four++r++e):=by
 obtain ⟨n1,k1⟩:=nms_four (e:=e) h
 rw [en] at n1
 rw [ek] at k1
 have n4:N4 (nms (four++r++e)) (kds (four++r++e)):=by rw [n1,k1];exact ⟨rfl,rfl,rfl,rfl,by decide,rfl,rfl⟩
 have hsp:∀c∈four++r++e,c∈four∨SC c∨c∈e:=fun c hc=>by
  rcases List.mem_append.1 hc with hc|hc
  ·rcases List.mem_append.1 hc with hc|hc
   ·exact .inl hc
   ·exact .inr (.inl (h c hc))
  ·exact .inr (.inr hc)
 have hsub:∀s∈nm4,s∈nm4++[nZoe]:=fun s hs=>List.mem_append_left _ hs
 refine ⟨⟨fun c hc=>?_,by simp;omega⟩,by simp,by simp;omega,?_,?_,?_,fun c hc hd=>?_,fun c hc ha=>?_⟩
 ·rcases hsp c hc with h|h|h
  ·exact (four_ok c h).1
  ·exact h.valid
  ·exact (he c h).1
 ·rw [n1,cnt5z];decide
 ·rw [n1];decide
 ·rw [List.any_eq_false,n1]
  intro c hc
  rcases hsp c hc with h|h|h
  ·rw [(four_ok c h).2.1 _ hsub];simp
  ·rw [sc_miss hsub h];simp
  ·rw [(he c h).2.1];simp
 ·rcases hsp c hc with h|h|h
  ·rw [(four_ok c h).2.2.1] at hd;cases hd
  ·exact sc_d n4 h hd
  ·rw [(he c h).2.2.1] at hd;cases hd
 ·rcases hsp c hc with h|h|h
  ·rw [(four_ok c h).2.2.2] at ha;cases ha
  ·exact sc_a n4 h ha
  ·rw [(he c h).2.2.2] at ha;cases ha
theorem sc_app {r e:List GCommand} (hr:r.length≤13) (h:∀c∈r,SC c) (hl:e.length≤2) (he:∀c∈e,validB c=true):Sc (four++r++e):=by
 refine ⟨fun c hc=>?_,by simp;omega⟩
 rcases List.mem_append.1 hc with hc|hc
 ·rcases List.mem_append.1 hc with hc|hc
  ·exact (four_ok c hc).1
  ·exact (h c hc).valid
 ·exact he c hc
theorem names44 {tape:List Int} (ht:(V.sl (tape.map (V.int .i64))).fact):F_33 tape=some true:=by
 have h0:TO (GTape.mk tape 0):=⟨Int.le_refl 0,Int.ofNat_le.2 (fact_sl ht)⟩
 refine Ok.eq ?_
 unfold F_33
 refine Ok.ite (fun _=>by rw [awake44];exact Ok.ret rfl) fun _=>?_
 refine Ok.bind (script_sc h0) fun y hy=>?_
 obtain ⟨⟨r,hx,hr,hm⟩,hT⟩:=hy
 have hl:y.1.length≤17:=by rw [hx];simp;omega
 have rm:∀{m:Nat},m≤1000→room m 64=true:=fun hm=>room_iff.2 (by omega)
 have m1:F_1 (y.1++[GCommand.mk 11 nZoe [] 0 0 0])=some (⟨[],[]⟩,⟨0,[]⟩,[],6):=by
  rw [hx]
  obtain ⟨n1,k1⟩:=nms_four (e:=[GCommand.mk 11 nZoe [] 0 0 0]) hm
  have n2:nms (four++r++[GCommand.mk 11 nZoe [] 0 0 0])=nm4:=n1
  refine Make_miss (sc_app hr hm (by simp) fun c hc=>by simp at hc;subst hc;decide) (by simp;omega) (by rw [n2,cnt4];decide) ?_
  rw [List.any_eq_true,n2]
  exact ⟨_,List.mem_append_right _ (List.mem_singleton.2 rfl),by decide⟩
 have m2:F_1 (y.1++[GCommand.mk 2 nAnn [] 0 0 0])=some (⟨[],[]⟩,⟨0,[]⟩,[],7):=by
  rw [hx]
  obtain ⟨n1,k1⟩:=nms_four (e:=[GCommand.mk 2 nAnn [] 0 0 0]) hm
  have n2:nms (four++r++[GCommand.mk 2 nAnn [] 0 0 0])=nm4++[nAnn]:=n1
  exact Make_twice (sc_app hr hm (by simp) fun c hc=>by simp at hc;subst hc;decide) (by simp;omega) (by rw [n2,cnt5a];decide)
 have g3:GS (four++r++[GCommand.mk 1 nZoe [] 0 0 0]):=gs_zoe hr hm (by simp) rfl rfl fun c hc=>by simp at hc;subst hc;decide
 have g4:GS (four++r++[GCommand.mk 1 nZoe [] 0 0 0,GCommand.mk 11 nZoe [] 0 0 0]):=gs_zoe hr hm (by simp) rfl rfl fun c hc=>by simp at hc;rcases hc with rfl|rfl<;>decide
 have n3:nms (four++r++[GCommand.mk 1 nZoe [] 0 0 0])=nm4++[nZoe]:=(nms_four hm).1
 refine Ok.chk (rm (by omega)) (Ok.chk (rm (by simp;omega)) ?_)
 show Ok ((F_1 (y.1++[GCommand.mk 11 nZoe [] 0 0 0])).bind _) _
 rw [m1,Option.bind_some]
 refine Ok.chk (rm (by omega)) (Ok.chk (rm (by simp;omega)) ?_)
 show Ok ((F_1 (y.1++[GCommand.mk 2 nAnn [] 0 0 0])).bind _) _
 rw [m2,Option.bind_some]
 refine Ok.chk (rm (by omega)) (Ok.chk (rm (by simp;omega)) ?_)
 show Ok ((F_1 (y.1++[GCommand.mk 1 nZoe [] 0 0 0])).bind _) _
 rw [hx,Make_eq g3,Option.bind_some]
 refine Ok.chk (rm (by simp;omega)) (Ok.chk (rm (by simp;omega)) ?_)
 show Ok ((F_h (four++r++[GCommand.mk 1 nZoe [] 0 0 0,GCommand.mk 11 nZoe [] 0 0 0])).bind _) _
 rw [Run_eq g4,Option.bind_some]
 have hpos:decide (0<(((four++r++[GCommand.mk 1 nZoe [] 0 0 0,GCommand.mk 11 nZoe [] 0 0 0]).flatMap (ans (four++r++[GCommand.mk 1 nZoe [] 0 0 0,GCommand.mk 11 nZoe [] 0 0 0]))).length:Int))=true:=by
  refine decide_eq_true ?_
  rw [List.flatMap_append]
  have:(ans (four++r++[GCommand.mk 1 nZoe [] 0 0 0,GCommand.mk 11 nZoe [] 0 0 0]) (GCommand.mk 11 nZoe [] 0 0 0)).length=(sinT (four++r++[GCommand.mk 1 nZoe [] 0 0 0,GCommand.mk 11 nZoe [] 0 0 0]) (GCommand.mk 11 nZoe [] 0 0 0)).length+1:=by simp [ans]
  simp only [List.length_append,List.flatMap_cons,List.flatMap_nil]
  omega
 have hb:inb 4 (nm4++[nZoe]).length=true:=inb_iff.2 (by decide)
 simp only [n3,grp,decide_true,Bool.true_and,Bool.and_true,jn]
 rw [show decide (((nm4++[nZoe]).length:Int)=5)=true from rfl,cond_true,chk_true hb]
 simp only [Option.bind_some]
 rw [show decide ((nm4++[nZoe]).getD 4 default=nZoe)=true from rfl,Bool.true_and,hpos,cond_true,awake44]
 exact Ok.ret rfl
theorem acall_fact2 {P:Program} {f:FuncId} {ys:List V} {H:Heap} {Q:V→Heap→Prop} (hc:callable P f=true) (h:(∀y∈ys,y.fact)→ACall P f ys H Q):ACall P f ys H Q :=
 ⟨hc,fun g w vals hH hs hr=>(h fun y hy=>by
  obtain ⟨i,hi⟩:=List.getElem?_of_mem hy
  exact (hr i y hi).fact).2 g w vals hH hs hr⟩
theorem call44n {tape:List Int}:ACall Tryz.prog 5 [.sl (tape.map (V.int .i64))] [] (fun r H=>r=.bool true∧H=[]) :=
 acall_fact2 (by kernel_rfl) fun h=>Wq_law44_ConsoleNames.c.w (names44 (h _ (by simp)))
end Go.Ab
