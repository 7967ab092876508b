/- Numbers and words of a line (for chapter 43). -/
import Derived.Test.YtnaeedamiaoipaaGreatDoorAbMC
import Derived.Lib.Join
import Derived.Test.YtnaeedamiaoipaaGreatDoorLT
import Derived.Test.YtnaeedamiaoipaaGreatDoorLC
import Derived.Test.YtnaeedamiaoipaaGreatDoorPX
set_option linter.all false
set_option linter.all false
namespace Go.Ab
open Go.Proofs
theorem dig_bounds (u:Nat):∀c∈Lib.decDigits u,48≤c.toNat∧c.toNat≤57:=by
 induction u using Nat.strongRecOn with
 | _ u ih =>
  intro c hc
  rw [Lib.decDigits] at hc
  split at hc
  ·rename_i h
   simp at hc;subst hc
   simp;omega
  ·rcases wD.1 hc with hc|hc
   ·exact ih (u / 10) (by omega) c hc
   ·simp at hc;subst hc
    simp;omega
theorem spl_ne (b:UInt8):∀s,spl b s≠[]
 | []=>by simp [spl]
 | c::r=>by
  simp only [spl]
  split
  ·simp
  ·cases spl b r<;>simp [glue]
theorem glue_nil {l:List Str} (h:l≠[]):glue [] l=l:=by cases l with|nil=>exact absurd rfl h|cons a t=>simp [glue]
theorem glue_glue (a b:Str) (l:List Str):glue a (glue b l)=glue (a++b) l:=by cases l<;>simp [glue]
end Go.Ab
set_option maxRecDepth 20000
namespace Go.Ab
open Go.Proofs
deriving instance DecidableEq for GCommand
inductive Fd
 | nm|ot|tm
 | fa (m:Int)|fb (m:Int)
def Fd.g:Fd→Gfield
 | .nm=>⟨some 142,none,0⟩
 | .ot=>⟨some 143,none,0⟩
 | .tm=>⟨none,some 141,1000000⟩
 | .fa m=>⟨none,some 144,m⟩
 | .fb m=>⟨none,some 145,m⟩
def Fd.get (c:GCommand):Fd→Str
 | .nm=>c.Name
 | .ot=>c.Other
 | .tm=>Lib.itoa c.Time
 | .fa _=>Lib.itoa c.A
 | .fb _=>Lib.itoa c.B
def Fd.zero (c:GCommand):Fd→GCommand
 | .nm=>⟨c.Kind,[],c.Other,c.Time,c.A,c.B⟩
 | .ot=>⟨c.Kind,c.Name,[],c.Time,c.A,c.B⟩
 | .tm=>⟨c.Kind,c.Name,c.Other,0,c.A,c.B⟩
 | .fa _=>⟨c.Kind,c.Name,c.Other,c.Time,0,c.B⟩
 | .fb _=>⟨c.Kind,c.Name,c.Other,c.Time,c.A,0⟩
def Fd.cp (s c:GCommand):Fd→GCommand
 | .nm=>⟨c.Kind,s.Name,c.Other,c.Time,c.A,c.B⟩
 | .ot=>⟨c.Kind,c.Name,s.Other,c.Time,c.A,c.B⟩
 | .tm=>⟨c.Kind,c.Name,c.Other,s.Time,c.A,c.B⟩
 | .fa _=>⟨c.Kind,c.Name,c.Other,c.Time,s.A,c.B⟩
 | .fb _=>⟨c.Kind,c.Name,c.Other,c.Time,c.A,s.B⟩
def rgb (x m:Int):Bool:=decide (0≤x)&&decide (x<m)
theorem rgb_iff {x m:Int}:(rgb x m=true)=(0≤x∧x<m):=by simp [rgb]
def Fd.ok (c:GCommand):Fd→Bool
 | .nm=>namedB c.Name 12
 | .ot=>namedB c.Other 12
 | .tm=>rgb c.Time 1000000
 | .fa m=>rgb c.A m
 | .fb m=>rgb c.B m
def wordsK:List (Str×List Fd) :=
 [([112,101,114,115,111,110],[.nm]),([103,114,111,117,112],[.nm]),
  ([106,111,105,110],[.tm,.nm,.ot]),([108,101,97,118,101],[.tm,.nm,.ot]),
  ([97,108,108,111,119],[.tm,.nm,.fa 16]),([102,111,114,98,105,100],[.tm,.nm,.fa 16]),
  ([111,112,101,110],[.tm,.fa 16,.fb 1000000]),([112,117,116],[.tm,.fa 64,.fb 16]),
  ([99,111,112,121],[.tm,.fa 16,.fb 16]),([119,104,111],[.tm,.fa 16]),([115,105,110,99,101],[.fa 64,.nm])]
def formsL:List Gform:=wordsK.map fun k=>⟨k.1,k.2.map Fd.g⟩
theorem forms_eq:F_r=some formsL:=rfl
def allOk:Bool→GCommand→List Fd→Bool
 | b,_,[]=>b
 | b,c,f::r=>allOk (f.ok c&&b) (f.zero c) r
theorem right_eq (f:Fd) (c:GCommand):F_2m f.g c=some (f.ok c,f.zero c):=by
 cases f<;>simp [F_2m,Fd.g,Fd.ok,rgb,Fd.zero,F_1q,F_1p,F_1t,F_1s,F_1r,namedF,jn]<;>(first|(cases decide (0≤c.Time)<;>rfl)|(cases decide (0≤c.A)<;>rfl)|(cases decide (0≤c.B)<;>rfl))
theorem valid_loop:∀(fs:List Fd) (k:Int) (b:Bool) (c:GCommand),foldL F_1u (fs.map Fd.g) k (b,c)=some (allOk b c fs,fs.foldl Fd.zero c)
 | [],_,_,_=>rfl
 | f::r,k,b,c=>by
  simp only [wQ,foldL,F_1u,right_eq,xV,grp]
  exact valid_loop r _ _ _
def kindOf (k:Int):Str×List Fd:=wordsK.getD (k - 1).toNat ([],[])
def zeroC (k:Int):GCommand:=⟨k,[],[],0,0,0⟩
def validB (c:GCommand):Bool:=decide (1≤c.Kind)&&(decide (c.Kind≤11)&&(allOk true c (kindOf c.Kind).2&&decide ((kindOf c.Kind).2.foldl Fd.zero c=zeroC c.Kind)))
theorem formsL_len:formsL.length=11:=rfl
theorem forms_get {k:Int} (h0:1≤k) (h1:k≤11):formsL.getD (k - 1).toNat default=⟨(kindOf k).1,(kindOf k).2.map Fd.g⟩:=by
 unfold kindOf formsL
 have h:(k - 1).toNat<wordsK.length:=by show (k - 1).toNat<11;omega
 rw [zE,xO,zJ h,zE,zJ h]
 rfl
theorem zero_kind:∀(fs:List Fd) (c:GCommand),(fs.foldl Fd.zero c).Kind=c.Kind
 | [],_=>rfl
 | f::r,c=>by rw [wG,zero_kind r];cases f<;>rfl
theorem Valid_eq (c:GCommand):F_1v c=some (validB c):=by
 unfold F_1v validB
 by_cases h0:1≤c.Kind
 ·by_cases h1:c.Kind≤11
  ·have e1:decide (c.Kind<1)=false:=x8 (by omega)
   have e2:decide (11<c.Kind)=false:=x8 (by omega)
   simp only [grp,e1,e2,Bool.or_self,vC,forms_eq,xV,formsL_len]
   rw [chk_true (in64_iff.2 (by omega)),chk_true (inb_iff.2 (by omega)),forms_get h0 h1]
   simp only [valid_loop,xV,jn]
   rw [wL h0,wL h1]
   cases hA:allOk true c (kindOf c.Kind).2 with
   | false=>simp
   | true =>
    have hk:=zero_kind (kindOf c.Kind).2 c
    generalize (kindOf c.Kind).2.foldl Fd.zero c=d at hk ⊢
    cases d
    simp only at hk
    subst hk
    simp [zeroC,GCommand.mk.injEq]
  ·have e2:decide (11<c.Kind)=true:=wL (by omega)
   have e3:decide (c.Kind≤11)=false:=x8 h1
   simp [grp,e2,e3]
 ·have e1:decide (c.Kind<1)=true:=wL (by omega)
  have e3:decide (1≤c.Kind)=false:=x8 h0
  simp [grp,e1,e3]
end Go.Ab
set_option maxRecDepth 20000
namespace Go.Ab
open Go.Proofs
structure VC (c:GCommand):Prop where
 k0:1≤c.Kind
 k1:c.Kind≤11
 ok:∀f∈(kindOf c.Kind).2,f.ok c=true
 cp:(kindOf c.Kind).2.foldl (Fd.cp c) (zeroC c.Kind)=c
 t:0≤c.Time∧c.Time<1000000
 a:0≤c.A∧c.A<1000000
 b:0≤c.B∧c.B<1000000
 n:c.Name.length≤12
 o:c.Other.length≤12
theorem named_iff {s:Str}:namedB s 12=true↔(∀x∈s,97≤x.toNat∧x.toNat≤122)∧1≤s.length∧s.length≤12:=by
 simp [namedB,letters]
 omega
theorem kinds {k:Int} (h0:1≤k) (h1:k≤11):k=1∨k=2∨k=3∨k=4∨k=5∨k=6∨k=7∨k=8∨k=9∨k=10∨k=11:=by omega
theorem valid_inv {c:GCommand} (h:validB c=true):VC c:=by
 unfold validB at h
 simp only [x5,xK] at h
 obtain ⟨h0,h1,h2,h3⟩:=h
 have hn:∀{s:Str},namedB s 12=true→s.length≤12:=fun h=>(named_iff.1 h).2.2
 obtain ⟨K,N,O,T,A,B⟩:=c
 simp only at h0 h1 h2 h3
 rcases kinds h0 h1 with h|h|h|h|h|h|h|h|h|h|h<;>subst h <;>
  simp [kindOf,wordsK,allOk,Fd.ok,Fd.zero,zeroC,List.getD_cons_succ] at h2 h3<;>(try simp only [rgb_iff] at h2) <;>
  refine ⟨h0,h1,?_,?_,?_,?_,?_,?_,?_⟩<;>simp [kindOf,wordsK,Fd.ok,rgb_iff,Fd.cp,zeroC,h2,h3,hn]<;>(try omega)<;>(try exact hn (by simp [h2]))
end Go.Ab
set_option maxRecDepth 20000
namespace Go.Ab
open Go.Proofs
theorem itoa_pos {n:Int} (h:0≤n):∀x∈Lib.itoa n,48≤x.toNat∧x.toNat≤57:=by
 obtain ⟨u,rfl⟩:=Int.eq_ofNat_of_zero_le h
 rw [Lib.itoa_nonneg]
 exact dig_bounds u
end Go.Ab
set_option maxRecDepth 20000
namespace Go.Ab
open Go.Proofs
end Go.Ab
set_option maxRecDepth 20000
namespace Go.Ab
open Go.Proofs
structure Sc (x:List GCommand):Prop where
 v:∀c∈x,validB c=true
 n:x.length≤60
theorem Sc.vc {x:List GCommand} (h:Sc x):∀c∈x,VC c:=fun c hc=>valid_inv (h.v c hc)
theorem check_loop:∀(x:List GCommand) (k:Int),(∀c∈x,validB c=true)→forL F_3x x k ()=some (.nx ())
 | [],_,_=>rfl
 | c::r,k,h=>by
  simp only [forL,F_3x,F_3w,Valid_eq,h c (by simp),xV,wR,vC,Fl.elim]
  exact check_loop r (k+1) fun c hc=>h c (z8 _ hc)
theorem check_eq {x:List GCommand} (h:Sc x):F_2d x=some 0:=by
 have hn:=h.n
 unfold F_2d F_3z F_3y
 rw [x8 (by omega),vC,check_loop x 0 h.v]
 rfl
end Go.Ab
set_option maxRecDepth 20000
namespace Go.Ab
open Go.Proofs
def TO (t:GTape):Prop:=0≤t.at_∧(t.L.length:Int)≤9223372036854775807
theorem in64_s {n:Int} (h0:-1000000000000≤n) (h:n≤1000000000000):in64 n=true:=in64_iff.2 ⟨by omega,by omega⟩
theorem nx_ok {t:GTape} {n:Int} (h:TO t) (hn:0<n):Ok (F_0 t n) fun y=>0≤y.1∧y.1<n∧TO y.2:=by
 unfold F_0
 refine Ok.ite (fun c=>Ok.ret ⟨vB 0,hn,h⟩) fun c=>?_
 have c':t.at_<t.L.length:=by simpa using c
 have h1:=h.1;have h2:=h.2
 refine Ok.chk (inb_iff.2 ⟨h.1,c'⟩) (Ok.chk (in64_iff.2 ⟨by omega,by omega⟩) (Ok.chk (divs_iff.2 ⟨Int.emod_nonneg _ (by decide),hn⟩) (Ok.ret ⟨Int.emod_nonneg _ (by omega),Int.emod_lt_of_pos _ hn,?_,h2⟩)))
 show 0≤t.at_+1
 omega
theorem btw_ok {t:GTape} {a b:Int} (h:TO t) (h1:-100000≤a) (h2:a≤b) (h3:b≤100000):Ok (F_2u t a b) fun y=>a≤y.1∧y.1≤b∧TO y.2:=by
 unfold F_2u
 refine Ok.chk (in64_s (by omega) (by omega)) (Ok.chk (in64_s (by omega) (by omega)) (Ok.bind (nx_ok h (by omega)) fun y hy=>Ok.chk (in64_s (by omega) (by omega)) (Ok.ret ⟨?_,?_,hy.2.2⟩)))
 ·show a≤a+y.1;omega
 ·show a+y.1≤b;omega
structure MC0 (ns:List Str) (c:GCommand):Prop where
 k:1≤c.Kind∧c.Kind≤11
 w:c.Kind=1∨c.Kind=2→c.Name∈ns∧c.Other=[]∧c.Time=0∧c.A=0∧c.B=0
 j:c.Kind=3∨c.Kind=4→c.Name∈ns∧c.Other∈ns∧c.A=0∧c.B=0
 g:c.Kind=5∨c.Kind=6→c.Name∈ns∧c.Other=[]∧c.B=0
 o:c.Kind=7→c.Name=[]∧c.Other=[]
 p:c.Kind=8∨c.Kind=9→c.Name=[]∧c.Other=[]∧c.B<3
 q:c.Kind=10→c.Name=[]∧c.Other=[]∧c.B=0
 s:c.Kind=11→c.Name∈ns∧c.Other=[]∧c.Time=0∧c.B=0
 t:0≤c.Time∧c.Time<100
 a:0≤c.A∧c.A<3
 b:0≤c.B∧c.B<200
theorem mc_82 {ns:List Str} (hn:∀n∈ns,namedB n 12=true) {c:GCommand} (h:MC0 ns c):validB c=true:=by
 obtain ⟨⟨k0,k1⟩,w,j,g,o,p,q,s,⟨t0,t1⟩,⟨a0,a1⟩,b0,b1⟩:=h
 obtain ⟨K,N,O,T,A,B⟩:=c
 simp only at *
 unfold validB
 simp only [x5,xK]
 refine ⟨k0,k1,?_⟩
 rcases kinds k0 k1 with h|h|h|h|h|h|h|h|h|h|h<;>subst h <;>
  simp at w j g o p q s <;>
  simp [kindOf,wordsK,allOk,Fd.ok,Fd.zero,zeroC,rgb_iff, *]<;>omega
theorem command_ok {t:GTape} {ns:List Str} (ht:TO t) (h1:1≤ns.length) (h2:ns.length≤100):Ok (F_2v t ns) fun y=>MC0 ns y.1∧TO y.2:=by
 have hm:∀{i:Int},0≤i→i<ns.length→ns.getD i.toNat default∈ns:=fun {i} h0 h1=>by
  have:i.toNat<ns.length:=by omega
  rw [zE,zJ this]
  exact xZ this
 unfold F_2v
 refine Ok.bind (nx_ok ht (by omega)) fun y2 e2=>Ok.chk (inb_iff.2 ⟨e2.1,e2.2.1⟩) (Ok.bind (nx_ok e2.2.2 (by omega)) fun y4 e4=>Ok.bind (btw_ok e4.2.2 (by omega) (by omega) (by omega)) fun y6 e6=>?_)
 have n2:=hm e2.1 e2.2.1
 obtain ⟨t0,t1,ht4⟩:=e4
 obtain ⟨k0,k1,ht6⟩:=e6
 refine Ok.jn (P:=fun j=>j=true↔y6.1=1∨y6.1=2) (Ok.ite (fun c=>Ok.ret (by simp at c;simp [c])) fun c=>Ok.ret (by simp at c;simp [c])) fun j7 e7=>Ok.ite (fun c=>?_) fun c=>?_
 ·have hk:=e7.1 c
  exact Ok.ret ⟨⟨⟨k0,k1⟩,fun _=>⟨n2,rfl,rfl,rfl,rfl⟩,fun h=>by simp only at h;omega,fun h=>by simp only at h;omega,fun h=>by simp only at h;omega,fun h=>by simp only at h;omega,fun h=>by simp only at h;omega,fun h=>by simp only at h;omega,by simp,by simp,by simp⟩,ht6⟩
 have hk1:¬(y6.1=1∨y6.1=2):=fun h=>by rw [e7.2 h] at c;cases c
 refine Ok.jn (P:=fun j=>j=true↔y6.1=3∨y6.1=4) (Ok.ite (fun c=>Ok.ret (by simp at c;simp [c])) fun c=>Ok.ret (by simp at c;simp [c])) fun j8 e8=>Ok.ite (fun c=>?_) fun c=>?_
 ·have hk:=e8.1 c
  refine Ok.bind (nx_ok ht6 (by omega)) fun y10 e10=>Ok.chk (inb_iff.2 ⟨e10.1,e10.2.1⟩) (Ok.ret ⟨⟨⟨k0,k1⟩,fun h=>by simp only at h;omega,fun _=>⟨n2,hm e10.1 e10.2.1,rfl,rfl⟩,fun h=>by simp only at h;omega,fun h=>by simp only at h;omega,fun h=>by simp only at h;omega,fun h=>by simp only at h;omega,fun h=>by simp only at h;omega,by simp only;omega,by simp,by simp⟩,e10.2.2⟩)
 have hk2:¬(y6.1=3∨y6.1=4):=fun h=>by rw [e8.2 h] at c;cases c
 refine Ok.jn (P:=fun j=>j=true↔y6.1=5∨y6.1=6) (Ok.ite (fun c=>Ok.ret (by simp at c;simp [c])) fun c=>Ok.ret (by simp at c;simp [c])) fun j11 e11=>Ok.ite (fun c=>?_) fun c=>?_
 ·have hk:=e11.1 c
  refine Ok.bind (nx_ok ht6 (by omega)) fun y13 e13=>Ok.ret ⟨⟨⟨k0,k1⟩,fun h=>by simp only at h;omega,fun h=>by simp only at h;omega,fun _=>⟨n2,rfl,rfl⟩,fun h=>by simp only at h;omega,fun h=>by simp only at h;omega,fun h=>by simp only at h;omega,fun h=>by simp only at h;omega,by simp only;omega,by simp only;omega,by simp⟩,e13.2.2⟩
 have hk3:¬(y6.1=5∨y6.1=6):=fun h=>by rw [e11.2 h] at c;cases c
 refine Ok.ite (fun c=>?_) fun c=>?_
 ·have hk:y6.1=7:=by simpa using c
  refine Ok.bind (nx_ok ht6 (by omega)) fun y16 e16=>Ok.bind (nx_ok e16.2.2 (by omega)) fun y17 e17=>Ok.chk (in64_s (by omega) (by omega)) (Ok.ret ⟨⟨⟨k0,k1⟩,fun h=>by simp only at h;omega,fun h=>by simp only at h;omega,fun h=>by simp only at h;omega,fun _=>⟨rfl,rfl⟩,fun h=>by simp only at h;omega,fun h=>by simp only at h;omega,fun h=>by simp only at h;omega,by simp only;omega,by simp only;omega,by simp only;omega⟩,e17.2.2⟩)
 have hk4:y6.1≠7:=by simpa using c
 refine Ok.ite (fun c=>?_) fun c=>?_
 ·have hk:y6.1=8:=by simpa using c
  refine Ok.bind (nx_ok ht6 (by omega)) fun y16 e16=>Ok.bind (nx_ok e16.2.2 (by omega)) fun y17 e17=>Ok.ret ⟨⟨⟨k0,k1⟩,fun h=>by simp only at h;omega,fun h=>by simp only at h;omega,fun h=>by simp only at h;omega,fun h=>by simp only at h;omega,fun _=>⟨rfl,rfl,e17.2.1⟩,fun h=>by simp only at h;omega,fun h=>by simp only at h;omega,by simp only;omega,by simp only;omega,by simp only;omega⟩,e17.2.2⟩
 have hk5:y6.1≠8:=by simpa using c
 refine Ok.ite (fun c=>?_) fun c=>?_
 ·have hk:y6.1=9:=by simpa using c
  refine Ok.bind (nx_ok ht6 (by omega)) fun y16 e16=>Ok.bind (nx_ok e16.2.2 (by omega)) fun y17 e17=>Ok.ret ⟨⟨⟨k0,k1⟩,fun h=>by simp only at h;omega,fun h=>by simp only at h;omega,fun h=>by simp only at h;omega,fun h=>by simp only at h;omega,fun _=>⟨rfl,rfl,e17.2.1⟩,fun h=>by simp only at h;omega,fun h=>by simp only at h;omega,by simp only;omega,by simp only;omega,by simp only;omega⟩,e17.2.2⟩
 have hk6:y6.1≠9:=by simpa using c
 refine Ok.ite (fun c=>?_) fun c=>?_
 ·have hk:y6.1=10:=by simpa using c
  refine Ok.bind (nx_ok ht6 (by omega)) fun y16 e16=>Ok.ret ⟨⟨⟨k0,k1⟩,fun h=>by simp only at h;omega,fun h=>by simp only at h;omega,fun h=>by simp only at h;omega,fun h=>by simp only at h;omega,fun h=>by simp only at h;omega,fun _=>⟨rfl,rfl,rfl⟩,fun h=>by simp only at h;omega,by simp only;omega,by simp only;omega,by simp⟩,e16.2.2⟩
 have hk7:y6.1≠10:=by simpa using c
 refine Ok.bind (nx_ok ht6 (by omega)) fun y16 e16=>Ok.ret ⟨⟨by simp,fun h=>by simp only at h;omega,fun h=>by simp only at h;omega,fun h=>by simp only at h;omega,fun h=>by simp only at h;omega,fun h=>by simp only at h;omega,fun h=>by simp only at h;omega,fun _=>⟨n2,rfl,rfl,rfl⟩,by simp,by simp only;omega,by simp⟩,e16.2.2⟩
end Go.Ab
set_option maxRecDepth 20000
namespace Go.Ab
open Go.Proofs
abbrev nAnn:Str:=[97,110,110]
abbrev nOps:Str:=[111,112,115]
abbrev nBob:Str:=[98,111,98]
abbrev nDev:Str:=[100,101,118]
abbrev nm4:List Str:=[nAnn,nOps,nBob,nDev]
abbrev four:List GCommand:=[⟨1,nAnn,[],0,0,0⟩,⟨2,nOps,[],0,0,0⟩,⟨1,nBob,[],0,0,0⟩,⟨2,nDev,[],0,0,0⟩]
structure SC (c:GCommand):Prop where
 m:MC0 nm4 c
 k:3≤c.Kind
 j:c.Kind=3∨c.Kind=4→(c.Other=nOps∨c.Other=nDev)∧c.Name≠c.Other
 o:c.Kind=7→c.Time<c.B
 p:c.Kind=9→c.A≠c.B
theorem gr2_or {i:Int} (h0:0≤i) (h1:i<2):([nOps,nDev]:List Str).getD i.toNat default=nOps∨([nOps,nDev]:List Str).getD i.toNat default=nDev:=by
 have:i=0∨i=1:=by omega
 rcases this with rfl|rfl
 ·exact .inl rfl
 ·exact .inr rfl
theorem script_sc {t:GTape} (ht:TO t):Ok (F_2w t) fun y=>(∃r,y.1=four++r∧r.length≤13∧∀c∈r,SC c)∧TO y.2:=by
 unfold F_2w
 refine Ok.bind (nx_ok ht (by omega)) fun y e=>Ok.bind (P:=fun z=>(∃r,z.1=four++r∧r.length≤13∧∀c∈r,SC c)∧TO z.2) ?_ fun r hr=>Ok.ret hr
 refine Ok.loop (fun s=>0≤s.1∧(∃r,s.2.1=four++r∧(r.length:Int)+s.1≤13∧∀c∈r,SC c)∧TO s.2.2) (fun s=>s.1.toNat) (fun s hs=>?_) _ ⟨e.1,⟨[],rfl,by simp only [wE];omega,by simp⟩,e.2.2⟩
 obtain ⟨k,l,t⟩:=s
 obtain ⟨h0,⟨r,h1,h2,h3⟩,h4⟩:=hs
 simp only at h0 h1 h2 h3 h4
 subst h1
 unfold F_3p
 refine Ok.ite (fun c=>?_) fun c=>Ok.ret ⟨⟨r,rfl,by omega,h3⟩,h4⟩
 have hk:0<k:=by simpa using c
 refine Ok.jn (P:=fun j=>(∃r',j.1=four++r'∧(r'.length:Int)≤r.length+1∧∀c∈r',SC c)∧TO j.2) ?_ fun j hj=>?_
 ·refine Ok.bind (command_ok h4 (by simp) (by simp)) fun y e=>?_
  obtain ⟨m,ht1⟩:=e
  refine Ok.jn (P:=fun o=>o.elim (fun j=>SC j.1∧TO j.2) fun t=>TO t) ?_ fun o ho=>?_
  ·refine Ok.jn (P:=fun j=>j=true↔y.1.Kind=1∨y.1.Kind=2) (Ok.ite (fun c=>Ok.ret (by simp at c;simp [c])) fun c=>Ok.ret (by simp at c;simp [c])) fun j e7=>Ok.ite (fun c=>Ok.ret ht1) fun c=>?_
   have hk1:¬(y.1.Kind=1∨y.1.Kind=2):=fun h=>by rw [e7.2 h] at c;cases c
   have mk:=m.k
   have hk3:3≤y.1.Kind:=by omega
   refine Ok.jn (P:=fun j=>j=true↔y.1.Kind=3∨y.1.Kind=4) (Ok.ite (fun c=>Ok.ret (by simp at c;simp [c])) fun c=>Ok.ret (by simp at c;simp [c])) fun j e8=>Ok.ite (fun c=>?_) fun c=>?_
   ·have hk2:=e8.1 c
    refine Ok.bind (nx_ok ht1 (by omega)) fun z ez=>Ok.chk (inb_iff.2 ⟨ez.1,by simpa using ez.2.1⟩) (Ok.ite (fun _=>Ok.ret ez.2.2) fun hne=>Ok.ret ⟨?_,ez.2.2⟩)
    have mj:=m.j hk2
    have hg:=gr2_or ez.1 ez.2.1
    have hin:([nOps,nDev]:List Str).getD z.1.toNat default∈nm4:=by rcases hg with h|h<;>rw [h]<;>simp
    refine ⟨⟨m.k,fun h=>absurd h hk1,fun _=>⟨mj.1,hin,mj.2.2.1,mj.2.2.2⟩,fun h=>by simp only at h;omega,fun h=>by simp only at h;omega,fun h=>by simp only at h;omega,fun h=>by simp only at h;omega,fun h=>by simp only at h;omega,m.t,m.a,m.b⟩,hk3,fun _=>⟨hg,of_decide_eq_false hne⟩,fun h=>by simp only at h;omega,fun h=>by simp only at h;omega⟩
   ·have hk4:¬(y.1.Kind=3∨y.1.Kind=4):=fun h=>by rw [e8.2 h] at c;cases c
    refine Ok.ite (fun c=>?_) fun c=>Ok.ite (fun c9=>Ok.ite (fun _=>Ok.ret ht1) fun hne=>Ok.ret ⟨⟨m,hk3,fun h=>absurd h hk4,fun h=>by have h':y.1.Kind=7:=h;have:y.1.Kind=9:=of_decide_eq_true c9;omega,fun _=>of_decide_eq_false hne⟩,ht1⟩) fun c9=>Ok.ret ⟨⟨m,hk3,fun h=>absurd h hk4,fun h=>absurd h (of_decide_eq_false c),fun h=>absurd h (of_decide_eq_false c9)⟩,ht1⟩
    have h7:y.1.Kind=7:=by simpa using c
    have mt:=m.t
    refine Ok.chk (in64_s (by omega) (by omega)) (Ok.bind (nx_ok ht1 (by omega)) fun z ez=>Ok.chk (in64_s (by omega) (by omega)) (Ok.ret ⟨?_,ez.2.2⟩))
    have mo:=m.o h7
    exact ⟨⟨m.k,fun h=>by simp only at h;omega,fun h=>by simp only at h;omega,fun h=>by simp only at h;omega,fun _=>mo,fun h=>by simp only at h;omega,fun h=>by simp only at h;omega,fun h=>by simp only at h;omega,m.t,m.a,by simp only;omega⟩,hk3,fun h=>absurd h hk4,fun _=>by simp only;omega,fun h=>by simp only at h;omega⟩
  ·cases o with
   | nx j =>
    refine Ok.chk (room_iff.2 (by simp only [xG,xY,wE];omega)) (Ok.ret ⟨⟨r++[j.1],by simp,by simp,fun c hc=>?_⟩,ho.2⟩)
    rcases wD.1 hc with hc|hc
    ·exact h3 c hc
    ·simp at hc;subst hc;exact ho.1
   | ex t=>exact Ok.ret ⟨⟨r,rfl,by omega,h3⟩,ho⟩
 ·obtain ⟨⟨r',g1,g2,g3⟩,g4⟩:=hj
  exact Ok.chk (in64_s (by simp only;omega) (by simp only;omega)) (Ok.ret ⟨⟨by simp only;omega,⟨r',g1,by simp only;omega,g3⟩,g4⟩,by simp only;omega⟩)
end Go.Ab
set_option maxRecDepth 20000
namespace Go.Ab
open Go.Proofs
def byT (l:List GCommand):Prop:=l.Pairwise fun a b=>a.Time≤b.Time
def atT (t:Int) (l:List GCommand):List GCommand:=l.filter fun c=>decide (c.Time=t)
structure Srt (d r:List GCommand):Prop where
 s:byT r
 f:∀t,atT t r=atT t d
 p:r.Perm d
theorem atT_app (t:Int) (a b:List GCommand):atT t (a++b)=atT t a++atT t b:=List.filter_append ..
theorem atT_self {c:GCommand} {l:List GCommand}:c∈atT c.Time l↔c∈l:=by simp [atT]
theorem byT_eq:∀(r r':List GCommand),byT r→byT r'→(∀t,atT t r=atT t r')→r=r'
 | [],[],_,_,_=>rfl
 | [],b::q,_,_,h=>by have:=h b.Time;simp [atT] at this
 | a::q,[],_,_,h=>by have:=h a.Time;simp [atT] at this
 | a::q,b::q',h1,h2,h=>by
  have ha:a∈b::q':=atT_self.1 (h a.Time▸atT_self.2 (by simp))
  have hb:b∈a::q:=atT_self.1 (h b.Time▸atT_self.2 (by simp))
  have s1:=List.pairwise_cons.1 h1
  have s2:=List.pairwise_cons.1 h2
  have e1:b.Time≤a.Time:=by
   rcases wP.1 ha with e|e
   ·rw [e];exact vB _
   ·exact s2.1 a e
  have e2:a.Time≤b.Time:=by
   rcases wP.1 hb with e|e
   ·rw [e];exact vB _
   ·exact s1.1 b e
  have et:a.Time=b.Time:=Int.le_antisymm e2 e1
  have h3:=h a.Time
  simp only [atT,List.filter_cons,decide_true,if_true,et.symm,wL et.symm] at h3
  simp only [et,decide_true,if_true,wH] at h3
  obtain ⟨rfl,h4⟩:=h3
  have ih:=byT_eq q q' s1.2 s2.2 fun t=>by
   by_cases ht:a.Time=t
   ·subst ht;exact h4
   ·have:=h t
    simp only [atT,List.filter_cons,x8 ht] at this
    simp at this
    exact this
  rw [ih]
theorem get_mid {q:List GCommand} {c:GCommand} {r:List GCommand}:(q++c::r).getD q.length default=c:=by simp [zE]
theorem swap_mid (b c:GCommand) (r:List GCommand):∀q:List GCommand,((q++b::c::r).set (q.length+1) b).set q.length c=q++c::b::r
 | []=>rfl
 | a::q=>by
  have:=swap_mid b c r q
  simpa using this
def tOK (c:GCommand):Prop:=0≤c.Time∧c.Time≤1000000000
theorem ins_ok {c:GCommand} {p s:List GCommand} (hp:byT p) (hc:tOK c) (hb:∀x∈p,tOK x) (hl:p.length+s.length≤1000) :
  Ok (loop (F_y 0) ((p.length:Int),p++c::s))
   fun r=>∃p1 p2,r=p1++c::(p2++s)∧p1++p2=p∧(∀x∈p1,x.Time≤c.Time)∧∀x∈p2,c.Time<x.Time:=by
 refine Ok.loop (fun st=>∃p1 p2,st.1=(p1.length:Int)∧st.2=p1++c::(p2++s)∧p1++p2=p∧∀x∈p2,c.Time<x.Time) (fun st=>st.1.toNat) (fun st hst=>?_) _ ⟨p,[],rfl,by simp,by simp,by simp⟩
 obtain ⟨i,d⟩:=st
 obtain ⟨p1,p2,h1,h2,h3,h4⟩:=hst
 simp only at h1 h2
 subst h1 h2
 have hl1:p1.length+p2.length=p.length:=by rw [←h3];simp
 unfold F_y
 refine Ok.ite (fun h0=>?_) fun h0=>?_
 ·have hpos:0<p1.length:=by simpa using h0
  obtain ⟨q,b,rfl⟩:∃q b,p1=q++[b]:=⟨p1.dropLast,p1.getLast (by intro e;rw [e] at hpos;simp at hpos),(List.dropLast_concat_getLast _).symm⟩
  have el:(q++[b]).length=q.length+1:=by simp
  simp only [xG,xY,wE] at hl1
  have e0:(q++[b])++c::(p2++s)=q++b::c::(p2++s):=by simp
  have e1:(((q++[b]).length:Nat):Int).toNat=q.length+1:=by rw [el];omega
  have e2:(((q++[b]).length:Int) - 1).toNat=q.length:=by rw [el];omega
  have g1:(q++b::c::(p2++s)).getD (q.length+1) default=c:=by
   have:=get_mid (q:=q++[b]) (c:=c) (r:=p2++s)
   rw [el,e0] at this;exact this
  have g2:(q++b::c::(p2++s)).getD q.length default=b:=get_mid
  have hbt:tOK b:=hb b (by rw [←h3];simp)
  obtain ⟨c0,c1⟩:=hc
  obtain ⟨b0,b1⟩:=hbt
  have hin:∀{k:Int},0≤k→k<q.length+2→inb k (q++b::c::(p2++s)).length=true:=fun h0 h1=>inb_iff.2 (by simp only [xG,xY];omega)
  rw [e0,e1,e2,g1,g2]
  refine Ok.chk (hin (by omega) (by rw [el];omega)) (Ok.chk (in64_s (by omega) (by rw [el];omega)) (Ok.chk (hin (by rw [el];omega) (by rw [el];omega)) ?_))
  unfold F_3e
  refine Ok.bind (P:=fun y=>y=c.Time - b.Time) (Ok.chk (in64_s (by omega) (by omega)) (Ok.ret rfl)) fun y ey=>?_
  subst ey
  refine Ok.ite (fun hlt=>?_) fun hge=>?_
  ·have hlt':c.Time<b.Time:=by have:=of_decide_eq_true hlt;omega
   rw [swap_mid]
   refine Ok.chk (in64_s (by omega) (by rw [el];omega)) (Ok.chk (in64_s (by omega) (by rw [el];omega)) (Ok.chk (hin (by rw [el];omega) (by rw [el];omega)) (Ok.chk (hin (by omega) (by rw [el];omega)) (Ok.chk (hin (by omega) (by rw [el];omega)) (Ok.chk ?_ (Ok.chk (in64_s (by omega) (by rw [el];omega)) (Ok.ret ⟨⟨q,b::p2,by rw [el];simp only;omega,by simp,by rw [←h3];simp,fun x hx=>?_⟩,by simp only [el];omega⟩)))))))
   ·rw [List.length_set];exact hin (by rw [el];omega) (by rw [el];omega)
   ·rcases wP.1 hx with rfl|hx
    ·exact hlt'
    ·exact h4 x hx
  ·have hge':b.Time≤c.Time:=by have:=of_decide_eq_false hge;omega
   refine Ok.ret ⟨q++[b],p2,by simp,h3,fun x hx=>?_,h4⟩
   rw [←h3] at hp
   have hq:=(List.pairwise_append.1 (List.pairwise_append.1 hp).1).2.2
   rcases wD.1 hx with hx|hx
   ·exact Int.le_trans (hq x hx b (by simp)) hge'
   ·simp at hx;subst hx;exact hge'
 ·have hz:p1.length=0:=by have:=of_decide_eq_false h0;omega
  obtain rfl:=zM.1 hz
  exact Ok.ret ⟨[],p2,rfl,h3,by simp,h4⟩
theorem Srt.ins {d p p1 p2:List GCommand} {c:GCommand} (h:Srt d p) (e:p1++p2=p) (h1:∀x∈p1,x.Time≤c.Time) (h2:∀x∈p2,c.Time<x.Time):Srt (d++[c]) (p1++c::p2):=by
 subst e
 have hs:=List.pairwise_append.1 h.s
 refine ⟨List.pairwise_append.2 ⟨hs.1,List.pairwise_cons.2 ⟨fun x hx=>w6 (h2 x hx),hs.2.1⟩,fun a ha b hb=>?_⟩,fun t=>?_,?_⟩
 ·rcases wP.1 hb with rfl|hb
  ·exact h1 a ha
  ·exact hs.2.2 a ha b hb
 ·have hf:=h.f t
  rw [atT_app] at hf
  rw [atT_app,atT_app,←hf]
  by_cases ht:c.Time=t
  ·have e:atT t p2=[]:=by
    unfold atT
    rw [List.filter_eq_nil_iff]
    intro x hx
    have:=h2 x hx
    simp;omega
   have e2:atT t (c::p2)=c::atT t p2:=by simp [atT,ht]
   have e3:atT t [c]=[c]:=by simp [atT,ht]
   rw [e2,e3,e];simp
  ·have e2:atT t (c::p2)=atT t p2:=by simp [atT,ht]
   have e3:atT t [c]=[]:=by simp [atT,ht]
   rw [e2,e3];simp
 ·exact (List.perm_middle).trans ((List.Perm.cons c h.p).trans (List.perm_append_singleton c d).symm)
end Go.Ab
set_option maxRecDepth 20000
namespace Go.Ab
open Go.Proofs
theorem insertion_ok {d:List GCommand} (h0:d≠[]) (hl:d.length≤900) (ht:∀x∈d,tOK x) :
  Ok (F_a d 0 (d.length:Int)) (Srt d):=by
 unfold F_a
 refine Ok.chk (in64_s (by omega) (by omega)) (Ok.bind (P:=Srt d) ?_ fun r hr=>Ok.ret hr)
 obtain ⟨a,r,rfl⟩:∃a r,d=a::r:=by cases d with|nil=>exact absurd rfl h0|cons a r=>exact ⟨a,r,rfl⟩
 refine Ok.loop (fun st=>∃pre s,st.1=(pre.length:Int)∧1≤pre.length∧st.2=pre++s∧s=(a::r).drop pre.length∧pre.length≤(a::r).length∧Srt ((a::r).take pre.length) pre) (fun st=>(((a::r).length:Int) - st.1).toNat) (fun st hst=>?_) _ ⟨[a],r,rfl,by simp,rfl,rfl,by simp,⟨by simp [byT],fun t=>rfl,List.Perm.refl _⟩⟩
 obtain ⟨i,x⟩:=st
 obtain ⟨pre,s,h1,h2,h3,h4,h5,h6⟩:=hst
 simp only at h1 h3
 subst h1 h3
 unfold F_1l
 refine Ok.ite (fun hlt=>?_) fun hge=>?_
 ·have hlt':pre.length<(a::r).length:=by have:=of_decide_eq_true hlt;omega
  have hc:=List.drop_eq_getElem_cons hlt'
  have hmem:(a::r)[pre.length]∈a::r:=xZ hlt'
  have htk:(a::r).take (pre.length+1)=(a::r).take pre.length++[(a::r)[pre.length]]:=by rw [List.take_succ,zJ hlt'];rfl
  generalize (a::r)[pre.length]=c at hc hmem htk
  have es:s=c::(a::r).drop (pre.length+1):=h4.trans hc
  have hpm:∀y∈pre,y∈a::r:=fun y hy=>List.mem_of_mem_take (h6.p.mem_iff.1 hy)
  have hdl:((a::r).drop (pre.length+1)).length=(a::r).length - (pre.length+1):=List.length_drop ..
  rw [es]
  refine Ok.bind (ins_ok (s:=(a::r).drop (pre.length+1)) h6.s (ht c hmem) (fun y hy=>ht y (hpm y hy)) (by omega)) fun y hy=>?_
  obtain ⟨p1,p2,e1,e2,e3,e4⟩:=hy
  subst e1
  have hlen:(p1++c::p2).length=pre.length+1:=by rw [←e2];simp;omega
  have hs:=h6.ins e2 e3 e4
  refine Ok.chk (in64_s (by omega) (by omega)) (Ok.ret ⟨⟨p1++c::p2,(a::r).drop (pre.length+1),by rw [hlen];simp,by rw [hlen];omega,by simp,by rw [hlen],by rw [hlen];omega,?_⟩,by simp only;omega⟩)
  rw [hlen,htk];exact hs
 ·have hge':(a::r).length≤pre.length:=by have:=of_decide_eq_false hge;omega
  have e:pre.length=(a::r).length:=by omega
  rw [h4,e,List.drop_length,wI]
  rw [e,xW] at h6
  exact Ok.ret h6
theorem Stable_ok {d:List GCommand} (h0:d≠[]) (hl:d.length≤19) (ht:∀x∈d,tOK x):Ok (F_b d) (Srt d):=by
 unfold F_b F_z
 refine Ok.bind (P:=Srt d) ?_ fun y hy=>Ok.ret hy
 have e1:loop (F_m (d.length:Int)) (0,20,d)=some (0,d):=by
  rw [loop_eq]
  unfold F_m
  rw [x8 (by simp only;omega)]
  rfl
 have e2:loop (F_1m (d.length:Int)) ()=some ():=by
  rw [loop_eq]
  unfold F_1m
  rw [x8 (by omega)]
  rfl
 rw [e1,xV]
 show Ok ((F_a d 0 (d.length:Int)).bind _) _
 refine Ok.bind (insertion_ok h0 (by omega) ht) fun y hy=>?_
 rw [e2]
 exact Ok.ret hy
noncomputable def srt (d:List GCommand):List GCommand:=(F_b d).getD []
theorem Stable_eq {d:List GCommand} (h0:d≠[]) (hl:d.length≤19) (ht:∀x∈d,tOK x):F_b d=some (srt d)∧Srt d (srt d):=by
 obtain ⟨y,e,h⟩:=Stable_ok h0 hl ht
 unfold srt
 rw [e]
 exact ⟨rfl,h⟩
end Go.Ab
set_option maxRecDepth 20000
namespace Go.Ab
open Go.Proofs
structure EvD (kds:List Int) (e:GMember):Prop where
 k:e.Kind=1∨e.Kind=2
 t:0≤e.Time∧e.Time≤1000000000
 p:0≤e.Principal∧e.Principal<kds.length
 g:0≤e.Group∧e.Group<kds.length
 u:kds.getD e.Group.toNat default=2
 n:e.Principal≠e.Group
theorem dkinds:∀(ks:List Int) (k:Int),(∀x∈ks,1≤x∧x≤3)→forL F_2o ks k ()=some (.nx ())
 | [],_,_=>rfl
 | a::r,k,h=>by
  have ha:=h a (by simp)
  have e1:decide (a<1)=false:=x8 (by omega)
  have e2:decide (3<a)=false:=x8 (by omega)
  simp only [forL,F_2o,F_s,grp,e1,e2,Bool.or_self,xV,vC,Fl.elim]
  exact dkinds r (k+1) fun x hx=>h x (z8 _ hx)
theorem dloop {d:GDirectory}:∀(es:List GMember) (k q:Int),(∀e∈es,EvD d.Kinds e∧q≤e.Time)→(es.Pairwise fun a b=>a.Time≤b.Time)→∃z,forL (F_13 d) es k q=some (.nx z)
 | [],_,q,_,_=>⟨q,rfl⟩
 | a::r,k,q,h,hs=>by
  obtain ⟨ha,hq⟩:=h a (by simp)
  have hs':=List.pairwise_cons.1 hs
  obtain ⟨⟨t0,t1⟩,⟨p0,p1⟩,⟨g0,g1⟩,u,n⟩:=(⟨ha.t,ha.p,ha.g,ha.u,ha.n⟩:_∧_∧_∧_∧_)
  have e1:(!decide (a.Kind=1)&&!decide (a.Kind=2))=false:=by rcases ha.k with h|h<;>simp [h]
  have e2:decide (a.Time<q)=false:=x8 (by omega)
  have e3:decide (1099511627776<a.Time)=false:=x8 (by omega)
  have x1:F_c d a.Principal=some true:=by unfold F_c;simp [grp,p0,p1]
  have x2:F_12 d a.Group=some true:=by
   unfold F_12 F_c
   simp only [grp,wL g0,wL g1,wT,xV,jn,vE]
   rw [chk_true (inb_iff.2 ⟨g0,g1⟩),u];rfl
  have hh:F_13 d k a q=some (.nx a.Time):=by
   unfold F_13
   simp only [grp,e1,e2,e3,Bool.or_self,vC,x1,x2,xV,wR,wS,x8 n]
  simp only [forL,hh,xV,Fl.elim]
  exact dloop r (k+1) a.Time (fun e he=>⟨(h e (z8 _ he)).1,hs'.1 e he⟩) hs'.2
theorem dcheck {d:GDirectory} (hk:∀k∈d.Kinds,1≤k∧k≤3) (h1:d.Kinds.length≤24) (h2:d.Events.length≤120) (he:∀e∈d.Events,EvD d.Kinds e) (hs:d.Events.Pairwise fun a b=>a.Time≤b.Time):F_9 d=some 0:=by
 obtain ⟨z,hz⟩:=dloop (d:=d) d.Events 0 0 (fun e h=>⟨he e h,(he e h).t.1⟩) hs
 unfold F_9 F_2p F_3l
 rw [dkinds _ _ hk,hz]
 have e1:decide (24<(d.Kinds.length:Int))=false:=x8 (by omega)
 have e2:decide (120<(d.Events.length:Int))=false:=x8 (by omega)
 simp only [grp,e1,e2,Bool.or_self,vC,xV,Fl.elim]
 rfl
structure EvA (e:GAccess):Prop where
 t:0≤e.Time∧e.Time≤1000000000
 p:0≤e.Place∧e.Place≤15
 k:(e.Kind=1∨e.Kind=2)∧(0≤e.Principal∧e.Principal≤23)∧e.Until=0∧e.Content=0∧e.From=0
  ∨ e.Kind=3∧(e.Time<e.Until∧e.Until≤1000000000)∧e.Principal=0∧e.Content=0∧e.From=0
  ∨ e.Kind=5∧(0≤e.Content∧e.Content≤63)∧e.Principal=0∧e.Until=0∧e.From=0
  ∨ e.Kind=7∧(0≤e.From∧e.From≤15)∧e.From≠e.Place∧e.Principal=0∧e.Until=0∧e.Content=0
theorem among_eq {n a b:Int} (h0:a≤n) (h1:n≤b):F_d n a b=some true:=by unfold F_d;simp [grp,h0,h1]
theorem place_eq {es:List GAccess} {p:Int} (h0:0≤p) (h1:p≤15):F_6 ⟨16,es⟩ p=some true:=by
 unfold F_6
 simp only
 rw [chk_true (in64_s (by omega) (by omega)),among_eq h0 (by omega)];rfl
theorem acc_right {es:List GAccess} {e:GAccess} (h:EvA e):F_14 ⟨16,es⟩ e=some true:=by
 obtain ⟨T,K,P,R,U,C,F⟩:=e
 obtain ⟨⟨t0,t1⟩,⟨p0,p1⟩,hk⟩:=h
 simp only at t0 t1 p0 p1 hk
 have hp:=place_eq (es:=es) p0 p1
 unfold F_14
 rcases hk with ⟨rfl|rfl,⟨r0,r1⟩,rfl,rfl,rfl⟩|⟨rfl,⟨u0,u1⟩,rfl,rfl,rfl⟩|⟨rfl,⟨c0,c1⟩,rfl,rfl,rfl⟩|⟨rfl,⟨f0,f1⟩,hne,rfl,rfl,rfl⟩
 ·simp [jn,grp,among_eq r0 r1,hp]
 ·simp [jn,grp,among_eq r0 r1,hp]
 ·have:U≤1099511627776:=by omega
  simp [jn,grp,u0,this,hp]
 ·simp [jn,grp,F_5,among_eq c0 c1,hp]
 ·simp [jn,grp,place_eq (es:=es) f0 f1,hne,hp]
theorem aloop {es0:List GAccess}:∀(es:List GAccess) (k q:Int),(∀e∈es,EvA e∧q≤e.Time)→(es.Pairwise fun a b=>a.Time≤b.Time)→∃z,forL (F_15 ⟨16,es0⟩) es k q=some (.nx z)
 | [],_,q,_,_=>⟨q,rfl⟩
 | a::r,k,q,h,hs=>by
  obtain ⟨ha,hq⟩:=h a (by simp)
  have hs':=List.pairwise_cons.1 hs
  have ht:=ha.t
  have e2:decide (a.Time<q)=false:=x8 (by omega)
  have e3:decide (1099511627776<a.Time)=false:=x8 (by omega)
  have hh:F_15 ⟨16,es0⟩ k a q=some (.nx a.Time):=by
   unfold F_15
   simp only [grp,e2,e3,Bool.or_self,vC,acc_right ha,xV,wR]
  simp only [forL,hh,xV,Fl.elim]
  exact aloop r (k+1) a.Time (fun e he=>⟨(h e (z8 _ he)).1,hs'.1 e he⟩) hs'.2
theorem acheck {es:List GAccess} (h2:es.length≤120) (he:∀e∈es,EvA e) (hs:es.Pairwise fun a b=>a.Time≤b.Time):F_3 ⟨16,es⟩=some 0:=by
 obtain ⟨z,hz⟩:=aloop (es0:=es) es 0 0 (fun e h=>⟨he e h,(he e h).t.1⟩) hs
 unfold F_3
 have e2:decide (120<(es.length:Int))=false:=x8 (by omega)
 simp only [among_eq (show (1:Int)≤16 by omega) (show (16:Int)≤16 by omega),xV,grp,e2,wR,Bool.or_self,vC,hz,Fl.elim]
end Go.Ab
set_option maxRecDepth 20000
namespace Go.Ab
open Go.Proofs
def idxS (v:Str):List Str→Int→Option Int
 | [],_=>none
 | a::r,k=>bif decide (v=a) then some k else idxS v r (k+1)
def idxN (s:List Str) (v:Str):Int:=(idxS v s 0).getD (-1)
theorem index_lp (v:Str):∀(s:List Str) (k:Int),forL (F_42 v) s k ()=some (match idxS v s k with|some j=>.ex j|none=>.nx ())
 | [],_=>rfl
 | a::r,k=>by
  simp only [forL,F_42,idxS]
  cases decide (v=a) with
  | true=>rfl
  | false=>exact index_lp v r (k+1)
theorem Index_eq (s:List Str) (v:Str):F_g s v=some (idxN s v):=by
 unfold F_g idxN
 rw [index_lp]
 cases idxS v s 0<;>rfl
theorem idxS_in (v:Str):∀(s:List Str) (k:Int),v∈s→∃i:Nat,idxS v s k=some (k+i)∧i<s.length∧s.getD i []=v
 | [],_,h=>by simp at h
 | a::r,k,h=>by
  by_cases e:v=a
  ·exact ⟨0,by simp [idxS,e],by simp,by simp [e]⟩
  ·obtain ⟨i,h1,h2,h3⟩:=idxS_in v r (k+1) ((wP.1 h).resolve_left e)
   exact ⟨i+1,by simp only [idxS,x8 e,vC,h1];congr 1;omega,by simp;omega,by simpa using h3⟩
theorem idxS_out (v:Str):∀(s:List Str) (k:Int),v∉s→idxS v s k=none
 | [],_,_=>rfl
 | a::r,k,h=>by
  have e:v≠a:=fun e=>h (by simp [e])
  simp only [idxS,x8 e,vC]
  exact idxS_out v r (k+1) fun h'=>h (z8 _ h')
theorem idxN_in {s:List Str} {v:Str} (h:v∈s):∃i:Nat,idxN s v=(i:Int)∧i<s.length∧s.getD i []=v:=by
 obtain ⟨i,h1,h2⟩:=idxS_in v s 0 h
 exact ⟨i,by unfold idxN;rw [h1];simp,h2⟩
theorem idxN_out {s:List Str} {v:Str} (h:v∉s):idxN s v=-1:=by unfold idxN;rw [idxS_out v s 0 h];rfl
theorem contains_eq (s:List Str) (v:Str):F_3c s v=some (decide (v∈s)):=by
 unfold F_3c
 rw [Index_eq,xV]
 by_cases h:v∈s
 ·obtain ⟨i,e,_⟩:=idxN_in h
  rw [e,wL h,wL (by omega)]
 ·rw [idxN_out h,x8 h];rfl
def isN (c:GCommand):Bool:=decide (c.Kind=1)||decide (c.Kind=2)
def nms (l:List GCommand):List Str:=(l.filter isN).map (·.Name)
def kds (l:List GCommand):List Int:=(l.filter isN).map (·.Kind)
theorem intro_lp:∀(l:List GCommand) (k:Int) (a:List Str) (b:List Int),a.length+l.length≤100000→b.length+l.length≤100000→foldL F_2e l k (a,b)=some (a++nms l,b++kds l)
 | [],_,a,b,_,_=>by simp [foldL,nms,kds]
 | c::r,k,a,b,h1,h2=>by
  simp only [xY] at h1 h2
  have r1:room (b.length+1) 8=true:=room_iff.2 (by omega)
  have r2:room (a.length+1) 16=true:=room_iff.2 (by omega)
  by_cases e1:c.Kind=1
  ·simp only [foldL,F_2e,wL e1,vE,xY,wE,wW]
   rw [chk_true r1,chk_true r2,xV,intro_lp r _ _ _ (by simp;omega) (by simp;omega)]
   simp [nms,kds,isN,e1]
  ·by_cases e2:c.Kind=2
   ·simp only [foldL,F_2e,x8 e1,wL e2,vE,vC,xY,wE,wW]
    rw [chk_true r1,chk_true r2,xV,intro_lp r _ _ _ (by simp;omega) (by simp;omega)]
    simp [nms,kds,isN,e2]
   ·simp only [foldL,F_2e,x8 e1,x8 e2,vC,xV]
    rw [intro_lp r _ _ _ (by omega) (by omega)]
    simp [nms,kds,isN,e1,e2]
theorem introduce_eq {l:List GCommand} (h:l.length≤1000):F_2f l=some (kds l,nms l):=by
 unfold F_2f
 rw [intro_lp l 0 [] [] (by simp;omega) (by simp;omega)]
 simp
def cntS (s:List Str):Nat:=(Go.Lib.compact (s.mergeSort fun x y=>decide (x≤y))).length
theorem collectV:∀(xs acc:List Str) (k:Int),acc.length+xs.length≤1000000→forL F_4x xs k acc=some (.nx (acc++xs))
 | [],acc,k,_=>by simp [forL]
 | x::r,acc,k,h=>by
  simp only [xY] at h
  simp only [forL,F_4x]
  rw [chk_true (room_iff.2 (by simp only [xY,wE];omega))]
  simp only [xV,Fl.elim]
  rw [collectV r _ _ (by simp;omega)]
  simp
theorem sorted_eq {s:List Str} (h:s.length≤1000):F_2g s=some (s.mergeSort fun x y=>decide (x≤y)):=by
 unfold F_2g F_41 F_40
 rw [collectV s [] 0 (by simp;omega)]
 simp only [xV,Fl.elim,wB]
 unfold sortS
 rw [chk_true (wL (by omega))];rfl
def missB (ns:List Str) (c:GCommand):Bool:=(!decide (c.Name=[])&&!decide (c.Name∈ns))||(!decide (c.Other=[])&&!decide (c.Other∈ns))
theorem miss1 (s:Str) (ns:List Str):F_2h s ns=some (!decide (s=[])&&!decide (s∈ns)):=by
 unfold F_2h
 rw [contains_eq]
 cases decide (s=[])<;>simp [jn]
theorem miss_eq (c:GCommand) (ns:List Str):F_3d c ns=some (missB ns c):=by
 unfold F_3d missB
 rw [miss1,miss1]
 simp only [xV,jn]
 cases (!decide (c.Name=[])&&!decide (c.Name∈ns))<;>simp
theorem miss_lp (ns:List Str):∀(l:List GCommand) (k:Int),0≤k→∃o,forL (F_43 ns) l k ()=some o∧o.elim (fun _=>l.any (missB ns)=false) (fun j=>0≤j∧l.any (missB ns)=true)
 | [],_,_=>⟨_,rfl,rfl⟩
 | c::r,k,h=>by
  simp only [forL,F_43,miss_eq,xV,List.any_cons]
  cases missB ns c with
  | true=>exact ⟨.ex k,rfl,h,rfl⟩
  | false =>
   obtain ⟨o,h1,h2⟩:=miss_lp ns r (k+1) (by omega)
   exact ⟨o,h1,by simpa using h2⟩
theorem missing_eq (l:List GCommand) (ns:List Str):F_2i l ns=some (l.any (missB ns)):=by
 unfold F_2i F_44
 obtain ⟨o,h1,h2⟩:=miss_lp ns l 0 (by omega)
 rw [h1,xV]
 cases o with
 | nx u =>
  have h2:l.any (missB ns)=false:=h2
  rw [h2];rfl
 | ex j =>
  obtain ⟨h3,h4⟩:=(h2:0≤j∧l.any (missB ns)=true)
  rw [h4]
  simp [Fl.elim,h3]
theorem clone_eq {l:List GCommand} (h:l≠[]) (hl:l.length≤1000):F_1k l=some l:=by
 unfold F_1k
 rw [amb_eq (by intro e;exact absurd (List.isEmpty_iff.1 e) h),chk_true (room_iff.2 (by simp only [wE];omega))]
 rfl
end Go.Ab
set_option maxRecDepth 20000
namespace Go.Ab
open Go.Proofs
def isD (c:GCommand):Bool:=decide (c.Kind=3)||decide (c.Kind=4)
def isA (c:GCommand):Bool:=decide (5≤c.Kind)&&decide (c.Kind≤9)
def memE (ns:List Str) (c:GCommand):GMember:=⟨c.Time,(1+c.Kind) - 3,idxN ns c.Name,idxN ns c.Other⟩
def accE (ns:List Str) (c:GCommand):GAccess :=
 bif decide (c.Kind≤6) then ⟨c.Time,(1+c.Kind) - 5,c.A,idxN ns c.Name,0,0,0⟩ else
 bif decide (c.Kind=7) then ⟨c.Time,3,c.A,0,c.B,0,0⟩ else
 bif decide (c.Kind=8) then ⟨c.Time,5,c.B,0,0,c.A,0⟩ else ⟨c.Time,7,c.B,0,0,0,c.A⟩
def evD (ns:List Str) (l:List GCommand):List GMember:=(l.filter isD).map (memE ns)
def evA (ns:List Str) (l:List GCommand):List GAccess:=(l.filter isA).map (accE ns)
theorem event_eq {c:GCommand} {ns:List Str} {d:GDirectory} {a:GEstate} (hk:1≤c.Kind∧c.Kind≤11) (h1:d.Events.length≤1000) (h2:a.Events.length≤1000) :
  F_2j c ns d a=some (⟨d.Kinds,d.Events++evD ns [c]⟩,⟨a.Places,a.Events++evA ns [c]⟩):=by
 have r1:room (d.Events.length+1) 32=true:=room_iff.2 (by omega)
 have r2:room (a.Events.length+1) 56=true:=room_iff.2 (by omega)
 have i1:in64 (1+c.Kind)=true:=in64_s (by omega) (by omega)
 have i2:in64 ((1+c.Kind) - 3)=true:=in64_s (by omega) (by omega)
 have i3:in64 ((1+c.Kind) - 5)=true:=in64_s (by omega) (by omega)
 unfold F_2j
 rw [Index_eq,Index_eq]
 simp only [xV,xY,wE,wW,chk_true r1,chk_true r2,chk_true i1,chk_true i2,chk_true i3]
 rcases kinds hk.1 hk.2 with h|h|h|h|h|h|h|h|h|h|h<;>simp [jn,h,evD,evA,isD,isA,memE,accE]
theorem make_lp {y:List Int×List Str}:∀(r:List GCommand) (k:Int) (p:Int) (ae:List GAccess) (ks:List Int) (de:List GMember),(∀c∈r,1≤c.Kind∧c.Kind≤11)→ae.length+r.length≤1000→de.length+r.length≤1000 →
  foldL (F_10 y) r k (p,ae,ks,de)=some (p,ae++evA y.2 r,ks,de++evD y.2 r)
 | [],_,p,ae,ks,de,_,_,_=>by simp [foldL,evA,evD]
 | c::r,k,p,ae,ks,de,h,h1,h2=>by
  simp only [xY] at h1 h2
  have la:(evA y.2 [c]).length≤1:=by unfold evA;rw [wF];exact List.length_filter_le _ _
  have ld:(evD y.2 [c]).length≤1:=by unfold evD;rw [wF];exact List.length_filter_le _ _
  simp only [foldL,F_10]
  rw [event_eq (h c (by simp)) (by simp only;omega) (by simp only;omega)]
  simp only [xV]
  rw [make_lp r (k+1) p _ ks _ (fun x hx=>h x (z8 _ hx)) (by rw [xG];omega) (by rw [xG];omega)]
  have ea:evA y.2 (c::r)=evA y.2 [c]++evA y.2 r:=by unfold evA;rw [←List.map_append,←List.filter_append];rfl
  have ed:evD y.2 (c::r)=evD y.2 [c]++evD y.2 r:=by unfold evD;rw [←List.map_append,←List.filter_append];rfl
  rw [ea,ed,List.append_assoc,List.append_assoc]
structure GS (x:List GCommand):Prop where
 sc:Sc x
 ne:x≠[]
 n:x.length≤19
 once:(nms x).length≤cntS (nms x)
 few:(nms x).length≤24
 miss:x.any (missB (nms x))=false
 d:∀c∈x,isD c=true→EvD (kds x) (memE (nms x) c)
 a:∀c∈x,isA c=true→EvA (accE (nms x) c)
theorem nms_len (x:List GCommand):(nms x).length≤x.length:=by unfold nms;rw [wF];exact List.length_filter_le _ _
theorem kds_mem {x:List GCommand} {k:Int} (h:k∈kds x):1≤k∧k≤3:=by
 unfold kds at h
 obtain ⟨c,hc,rfl⟩:=w4.1 h
 have:=(wC.1 hc).2
 simp [isN] at this
 omega
theorem accE_time (ns:List Str) (c:GCommand):(accE ns c).Time=c.Time:=by
 unfold accE
 cases decide (c.Kind≤6)<;>cases decide (c.Kind=7)<;>cases decide (c.Kind=8)<;>rfl
theorem evD_srt {ns:List Str} {r:List GCommand} (h:byT r):(evD ns r).Pairwise fun a b=>a.Time≤b.Time:=by
 unfold evD
 rw [List.pairwise_map]
 exact List.Pairwise.filter _ h
theorem evA_srt {ns:List Str} {r:List GCommand} (h:byT r):(evA ns r).Pairwise fun a b=>a.Time≤b.Time:=by
 unfold evA
 rw [List.pairwise_map]
 exact (List.Pairwise.filter _ h).imp fun {a b} e=>by rw [accE_time,accE_time];exact e
theorem Make_eq {x:List GCommand} (h:GS x):F_n x=some (⟨kds x,evD (nms x) (srt x)⟩,⟨16,evA (nms x) (srt x)⟩,nms x,0):=by
 have hn:=h.n
 have hnl:=nms_len x
 have ht:∀c∈x,tOK c:=fun c hc=>by have:=(h.sc.vc c hc).t;exact ⟨this.1,by omega⟩
 obtain ⟨es,hs⟩:=Stable_eq h.ne hn ht
 have hm:∀c,c∈srt x↔c∈x:=fun c=>hs.p.mem_iff
 have hsl:(srt x).length=x.length:=hs.p.length_eq
 have e1:decide (((cntS (nms x):Nat):Int)<((nms x).length:Int))=false:=x8 (by have:=h.once;omega)
 have e2:decide (24<((nms x).length:Int))=false:=x8 (by have:=h.few;omega)
 have ec:compactS ((nms x).mergeSort fun x y=>decide (x≤y))=some (cntS (nms x),Go.Lib.compact ((nms x).mergeSort fun x y=>decide (x≤y))++List.replicate (((nms x).mergeSort fun x y=>decide (x≤y)).length - (Go.Lib.compact ((nms x).mergeSort fun x y=>decide (x≤y))).length) []):=by
  unfold compactS
  rw [chk_true (wL (by rw [List.length_mergeSort];omega))];rfl
 have la:(evA (nms x) (srt x)).length≤19:=by unfold evA;rw [wF];exact wX (List.length_filter_le _ _) (by omega)
 have ld:(evD (nms x) (srt x)).length≤19:=by unfold evD;rw [wF];exact wX (List.length_filter_le _ _) (by omega)
 have hd:F_9 ⟨kds x,evD (nms x) (srt x)⟩=some 0:=dcheck (fun k hk=>kds_mem hk) (by have:=h.few;unfold kds;rw [wF];unfold nms at this;rw [wF] at this;exact this) (by simp only;omega) (fun e he=>by
  obtain ⟨c,hc,rfl⟩:=w4.1 he
  have hc':=wC.1 hc
  exact h.d c ((hm c).1 hc'.1) hc'.2) (evD_srt hs.s)
 have ha:F_3 ⟨16,evA (nms x) (srt x)⟩=some 0:=acheck (by omega) (fun e he=>by
  obtain ⟨c,hc,rfl⟩:=w4.1 he
  have hc':=wC.1 hc
  exact h.a c ((hm c).1 hc'.1) hc'.2) (evA_srt hs.s)
 unfold F_n
 rw [check_eq h.sc,xV,wL rfl,wR,vC,introduce_eq (by omega),xV]
 simp only [valsF,xV]
 rw [sorted_eq (by omega),xV,ec,xV]
 simp only [e1,vC]
 rw [missing_eq,h.miss,xV,vC,e2,vC,clone_eq h.ne (by omega),xV,es,xV]
 rw [make_lp (y:=(kds x,nms x)) (srt x) 0 16 [] (kds x) [] (fun c hc=>by have:=h.sc.vc c ((hm c).1 hc);exact ⟨this.k0,this.k1⟩) (by simp;omega) (by simp;omega)]
 simp only [xV,wB,hd,ha,decide_true,wR,vC]
end Go.Ab
set_option maxRecDepth 20000
namespace Go.Ab
open Go.Proofs
noncomputable def mkD (x:List GCommand):GDirectory:=⟨kds x,evD (nms x) (srt x)⟩
noncomputable def mkE (x:List GCommand):GEstate:=⟨16,evA (nms x) (srt x)⟩
theorem kn_len (x:List GCommand):(kds x).length=(nms x).length:=by simp [kds,nms]
theorem GS.tok {x:List GCommand} (h:GS x):∀c∈x,tOK c:=fun c hc=>by have:=(h.sc.vc c hc).t;exact ⟨this.1,by omega⟩
theorem GS.srt {x:List GCommand} (h:GS x):Srt x (srt x):=(Stable_eq h.ne h.n h.tok).2
theorem GS.gd {x:List GCommand} (h:GS x):GoodD (mkD x):=by
 have hs:=h.srt
 have hl:=hs.p.length_eq
 have hn:=h.n
 refine ⟨by have:=h.few;show (kds x).length≤24;rw [kn_len];exact this,?_,fun k hk=>kds_mem hk,fun e he=>?_,evD_srt hs.s⟩
 ·show (evD _ _).length≤120
  unfold evD
  rw [wF]
  exact wX (List.length_filter_le _ _) (by omega)
 ·obtain ⟨c,hc,rfl⟩:=w4.1 he
  have hc':=wC.1 hc
  obtain ⟨k,t,p,g,u,n⟩:=h.d c (hs.p.mem_iff.1 hc'.1) hc'.2
  exact ⟨k,t.1,by omega,p,⟨g.1,g.2,u⟩,n⟩
theorem GS.ga {x:List GCommand} (h:GS x):Good (mkE x):=by
 have hs:=h.srt
 have hl:=hs.p.length_eq
 have hn:=h.n
 refine ⟨by show (1:Int)≤16;omega,by show (16:Int)≤16;omega,?_,fun e he=>?_,evA_srt hs.s⟩
 ·show (evA _ _).length≤120
  unfold evA
  rw [wF]
  exact wX (List.length_filter_le _ _) (by omega)
 ·obtain ⟨c,hc,rfl⟩:=w4.1 he
  have hc':=wC.1 hc
  obtain ⟨t,p,k⟩:=h.a c (hs.p.mem_iff.1 hc'.1) hc'.2
  refine ⟨t.1,by omega,p.1,by show _≤(16:Int) - 1;omega,?_⟩
  rcases k with ⟨a,b,c,d,e⟩|⟨a,b,c,d,e⟩|⟨a,b,c,d,e⟩|⟨a,b,c,d,e,f⟩
  ·exact .inl ⟨a,b.1,b.2,c,d,e⟩
  ·exact .inr (.inl ⟨a,b.1,by omega,c,d,e⟩)
  ·exact .inr (.inr (.inr (.inl ⟨.inl a,b.1,b.2,c,d,e⟩)))
  ·exact .inr (.inr (.inr (.inr ⟨a,b.1,by show _≤(16:Int) - 1;omega,c,d,e,f⟩)))
noncomputable def whoT (x:List GCommand) (c:GCommand):Str :=
 (bif (lkf c.A c.Time (mkE x).Events 0 (0,false)).2 then [112,117,98,108,105,99] else [105,110,115,105,100,101])++(mays (mkD x) (mkE x) c.A c.Time).flatMap fun p=>32::(nms x).getD p.toNat default
noncomputable def sinT (x:List GCommand) (c:GCommand):Str:=match sin (mkD x) (mkE x) c.A (idxN (nms x) c.Name) with
 | some t=>Lib.itoa t
 | none=>[110,101,118,101,114]
noncomputable def ans (x:List GCommand) (c:GCommand):Str :=
 bif decide (c.Kind=10) then whoT x c++[10] else bif decide (c.Kind=11) then sinT x c++[10] else []
theorem nms_short {x:List GCommand} (h:GS x) (i:Nat):((nms x).getD i default).length≤12:=by
 by_cases hi:i<(nms x).length
 ·rw [zE,zJ hi]
  have hm:(nms x)[i]∈nms x:=xZ hi
  obtain ⟨c,hc,e⟩:=w4.1 hm
  have:=(h.sc.vc c (wC.1 hc).1).n
  simp only [xU]
  rw [←e];exact this
 ·rw [zE,List.getElem?_eq_none (by omega)]
  exact w7 _
theorem who_lp (ns:List Str) (hn:∀i:Nat,(ns.getD i default).length≤12):∀(ps:List Int) (k:Int) (s:Str),(∀p∈ps,0≤p∧p<ns.length)→s.length+13*ps.length≤100000 →
  foldL (F_2k ns) ps k s=some (s++ps.flatMap fun p=>32::ns.getD p.toNat default)
 | [],_,s,_,_=>by simp [foldL]
 | p::r,k,s,h,hl=>by
  simp only [xY] at hl
  have hp:=h p (by simp)
  have h1:=hn p.toNat
  simp only [foldL,F_2k]
  rw [chk_true (inb_iff.2 ⟨hp.1,by omega⟩),chk_true (strl_iff.2 (by simp only [xY,wE];omega)),chk_true (strl_iff.2 (by simp only [xG,xY,wE];omega)),xV]
  rw [who_lp ns hn r _ _ (fun q hq=>h q (z8 _ hq)) (by simp only [xG,xY,wE];omega)]
  simp
theorem mays_in {d:GDirectory} {a:GEstate} {pl t:Int}:(∀p∈mays d a pl t,0≤p∧p<d.Kinds.length)∧(mays d a pl t).length≤d.Kinds.length:=by
 refine ⟨fun p hp=>?_,?_⟩
 ·have:=(mem_mays.1 hp).1.1
  exact ⟨this.1,this.2.1⟩
 ·unfold mays
  rw [wF]
  exact wX (List.length_filter_le _ _) (by simp)
theorem flat13 (ns:List Str) (hn:∀i:Nat,(ns.getD i default).length≤12):∀ps:List Int,(ps.flatMap fun p=>32::ns.getD p.toNat default).length≤13*ps.length
 | []=>by simp
 | p::r=>by
  have h1:=hn p.toNat
  have ih:=flat13 ns hn r
  simp only [xP,xG,xY]
  omega
theorem who_line {x:List GCommand} (h:GS x) {c:GCommand} (hA:0≤c.A∧c.A≤15):F_1n c (mkD x) (mkE x) (nms x)=some (whoT x c)∧(whoT x c).length≤400:=by
 have hm:=mays_in (d:=mkD x) (a:=mkE x) (pl:=c.A) (t:=c.Time)
 have hk:(mkD x).Kinds.length=(nms x).length:=kn_len x
 have hf:=h.few
 have hfl:=flat13 (nms x) (nms_short h) (mays (mkD x) (mkE x) c.A c.Time)
 constructor
 ·unfold F_1n whoT
  rw [who_eq h.gd h.ga c.Time hA.1 (by show c.A≤(16:Int) - 1;omega),xV]
  simp only
  cases (lkf c.A c.Time (mkE x).Events 0 (0,false)).2 with
  | true =>
   simp only [vE,jn,xV]
   rw [who_lp (nms x) (nms_short h) _ _ _ (fun p hp=>by have:=hm.1 p hp;omega) (by simp only [xY,wE];omega)];rfl
  | false =>
   simp only [vC,jn,xV]
   rw [who_lp (nms x) (nms_short h) _ _ _ (fun p hp=>by have:=hm.1 p hp;omega) (by simp only [xY,wE];omega)];rfl
 ·unfold whoT
  cases (lkf c.A c.Time (mkE x).Events 0 (0,false)).2<;>simp only [vE,vC,xG,xY,wE]<;>omega
theorem sin_line {x:List GCommand} (h:GS x) {c:GCommand} (hA:0≤c.A∧c.A≤63) :
  ((F_g (nms x) c.Name).bind fun y183=>(F_v (mkD x) (mkE x) c.A y183).bind fun y184=>bif y184.2 then (itoaI y184.1).bind fun y185=>some y185 else some [110,101,118,101,114])=some (sinT x c)∧(sinT x c).length≤30:=by
 rw [Index_eq,xV,Since_eq h.gd h.ga hA.1 hA.2,xV]
 unfold sinT
 cases hs:sin (mkD x) (mkE x) c.A (idxN (nms x) c.Name) with
 | none=>simp [fst0]
 | some t =>
  have hm:t∈tms (mkD x) (mkE x):=List.mem_of_find?_eq_some hs
  have hb:0≤t∧t≤1099511627776:=by
   rcases mem_tms.1 hm with ⟨e,he,rfl⟩|⟨e,he,rfl⟩
   ·have:=h.ga.ev e he;exact ⟨this.1,this.2.1⟩
   ·have:=h.gd.ev e he;exact ⟨this.2.1,this.2.2.1⟩
  have hi:in64 t=true:=in64_iff.2 (by omega)
  have hl:=Lib.itoa_length_le t (by omega) (by omega)
  have ei:itoaI t=some (Lib.itoa t):=chk_true hi
  simp only [fst0,vE,ei,xV]
  exact ⟨trivial,by omega⟩
end Go.Ab
set_option maxRecDepth 20000
namespace Go.Ab
open Go.Proofs
theorem ask_who {c:GCommand} (h:VC c) (hk:c.Kind=10):0≤c.A∧c.A≤15:=by
 have:=h.ok (.fa 16) (by rw [hk];simp [kindOf,wordsK])
 have:=(rgb_iff▸this:0≤c.A∧c.A<16)
 omega
theorem ask_sin {c:GCommand} (h:VC c) (hk:c.Kind=11):0≤c.A∧c.A≤63:=by
 have:=h.ok (.fa 64) (by rw [hk];simp [kindOf,wordsK])
 have:=(rgb_iff▸this:0≤c.A∧c.A<64)
 omega
theorem ans_len {x:List GCommand} (h:GS x) {c:GCommand} (hc:VC c):(ans x c).length≤401:=by
 unfold ans
 by_cases e1:c.Kind=10
 ·have:=(who_line h (ask_who hc e1)).2
  rw [wL e1,vE];simp;omega
 ·by_cases e2:c.Kind=11
  ·have:=(sin_line h (ask_sin hc e2)).2
   rw [x8 e1,vC,wL e2,vE];simp;omega
  ·rw [x8 e1,vC,x8 e2];simp
theorem run_lp {x:List GCommand} (h:GS x):∀(l:List GCommand) (k:Int) (s:Str),(∀c∈l,VC c)→s.length+401*l.length≤1000000 →
  foldL (F_o (mkD x,mkE x,nms x,0)) l k s=some (s++l.flatMap (ans x))
 | [],_,s,_,_=>by simp [foldL]
 | c :: r,k,s,hv,hl=>by
  simp only [xY] at hl
  have hc:=hv c (by simp)
  have ha:=ans_len h hc
  have hb:F_o (mkD x,mkE x,nms x,0) k c s=some (s++ans x c):=by
   have bw:∀t:Str,t.length≤401→bws s t=some (s++t):=fun t ht=>by unfold bws;exact chk_true (room_iff.2 (by omega))
   unfold F_o
   unfold ans at ha ⊢
   by_cases e1:c.Kind=10
   ·obtain ⟨w1,w2⟩:=who_line h (ask_who hc e1)
    rw [wL e1] at ha ⊢
    simp only [vE,w1,xV] at ha ⊢
    rw [chk_true (strl_iff.2 (by simp only [xY,wE];omega)),bw _ ha];rfl
   ·by_cases e2:c.Kind=11
    ·obtain ⟨w1,w2⟩:=sin_line h (ask_sin hc e2)
     rw [x8 e1,wL e2] at ha ⊢
     simp only [vC,vE] at ha ⊢
     refine (congrArg (fun o=>jn o _) w1).trans ?_
     simp only [jn,xV]
     rw [chk_true (strl_iff.2 (by simp only [xY,wE];omega)),bw _ ha];rfl
    ·rw [x8 e1,x8 e2];simp
  simp only [foldL,hb,xV]
  rw [run_lp h r (k+1) _ (fun c hc=>hv c (z8 _ hc)) (by rw [xG];omega)]
  simp
theorem Run_eq {x:List GCommand} (h:GS x):F_h x=some (x.flatMap (ans x),0):=by
 have hn:=h.n
 unfold F_h
 rw [Make_eq h,xV]
 simp only [decide_true,wR,vC]
 have:=run_lp h x 0 [] h.sc.vc (by simp;omega)
 unfold mkD mkE at this
 rw [this]
 simp [bstr]
end Go.Ab
set_option maxRecDepth 20000
namespace Go.Ab
open Go.Proofs
theorem cnt4:cntS nm4=4:=by
 unfold cntS
 simp [List.mergeSort,List.MergeSort.Internal.splitInTwo,List.merge]
 rw [if_pos (by decide),if_pos (by decide)]
 have e:[nAnn,nOps].merge [nBob,nDev] (fun x y=>decide (x≤y))=[nAnn,nBob,nDev,nOps]:=by
  rw [List.cons_merge_cons,if_pos (by decide),List.cons_merge_cons,if_neg (by decide),List.cons_merge_cons,if_neg (by decide),List.merge_right]
 rw [e]
 decide
structure N4 (ns:List Str) (ks:List Int):Prop where
 i0:idxN ns nAnn=0
 i1:idxN ns nOps=1
 i2:idxN ns nBob=2
 i3:idxN ns nDev=3
 l:4≤ks.length∧ks.length≤24
 k1:ks.getD 1 default=2
 k3:ks.getD 3 default=2
theorem N4.idx {ns:List Str} {ks:List Int} (h:N4 ns ks) {s:Str} (hs:s∈nm4):0≤idxN ns s∧idxN ns s<4:=by
 simp at hs
 rcases hs with rfl|rfl|rfl|rfl
 ·rw [h.i0];omega
 ·rw [h.i1];omega
 ·rw [h.i2];omega
 ·rw [h.i3];omega
theorem N4.inj {ns:List Str} {ks:List Int} (h:N4 ns ks) {s t:Str} (hs:s∈nm4) (ht:t∈nm4) (e:idxN ns s=idxN ns t):s=t:=by
 simp at hs ht
 rcases hs with rfl|rfl|rfl|rfl<;>rcases ht with rfl|rfl|rfl|rfl<;>first|rfl|(simp only [h.i0,h.i1,h.i2,h.i3] at e;omega)
theorem sc_d {ns:List Str} {ks:List Int} (h:N4 ns ks) {c:GCommand} (m:SC c) (hd:isD c=true):EvD ks (memE ns c):=by
 have hk:c.Kind=3∨c.Kind=4:=by simpa [isD] using hd
 have mj:=m.m.j hk
 have mo:=m.j hk
 have mt:=m.m.t
 have hl:=h.l
 have g:=h.idx mj.2.1
 have p:=h.idx mj.1
 refine ⟨by show (1+c.Kind) - 3=1∨(1+c.Kind) - 3=2;omega,⟨mt.1,by show c.Time≤_;omega⟩,⟨p.1,by show idxN ns c.Name<_;omega⟩,⟨g.1,by show idxN ns c.Other<_;omega⟩,?_,fun e=>mo.2 (h.inj mj.1 mj.2.1 e)⟩
 show ks.getD (idxN ns c.Other).toNat default=2
 rcases mo.1 with e|e<;>rw [e]
 ·rw [h.i1];exact h.k1
 ·rw [h.i3];exact h.k3
theorem sc_a {ns:List Str} {ks:List Int} (h:N4 ns ks) {c:GCommand} (m:SC c) (hd:isA c=true):EvA (accE ns c):=by
 have hk:5≤c.Kind∧c.Kind≤9:=by simpa [isA] using hd
 have mt:=m.m.t
 have ma:=m.m.a
 have mb:=m.m.b
 have hk':c.Kind=5∨c.Kind=6∨c.Kind=7∨c.Kind=8∨c.Kind=9:=by omega
 refine ⟨by rw [accE_time];omega,?_,?_⟩
 ·rcases hk' with e|e|e|e|e<;>simp only [accE,e]<;>simp
  ·omega
  ·omega
  ·omega
  ·have:=(m.m.p (.inl e)).2.2;omega
  ·have:=(m.m.p (.inr e)).2.2;omega
 ·rcases hk' with e|e|e|e|e<;>simp only [accE,e]<;>simp
  ·have:=h.idx (m.m.g (.inl e)).1;omega
  ·have:=h.idx (m.m.g (.inr e)).1;omega
  ·have:=m.o e;omega
  ·omega
  ·have:=m.p e;omega
theorem sc_miss {ns:List Str} (hs:∀s∈nm4,s∈ns) {c:GCommand} (m:SC c):missB ns c=false:=by
 have mk:=m.m.k
 have m3:=m.k
 have hk:c.Kind=3∨c.Kind=4∨c.Kind=5∨c.Kind=6∨c.Kind=7∨c.Kind=8∨c.Kind=9∨c.Kind=10∨c.Kind=11:=by omega
 have key:(c.Name=[]∨c.Name∈ns)∧(c.Other=[]∨c.Other∈ns):=by
  rcases hk with e|e|e|e|e|e|e|e|e
  ·have:=m.m.j (.inl e);exact ⟨.inr (hs _ this.1),.inr (hs _ this.2.1)⟩
  ·have:=m.m.j (.inr e);exact ⟨.inr (hs _ this.1),.inr (hs _ this.2.1)⟩
  ·have:=m.m.g (.inl e);exact ⟨.inr (hs _ this.1),.inl this.2.1⟩
  ·have:=m.m.g (.inr e);exact ⟨.inr (hs _ this.1),.inl this.2.1⟩
  ·have:=m.m.o e;exact ⟨.inl this.1,.inl this.2⟩
  ·have:=m.m.p (.inl e);exact ⟨.inl this.1,.inl this.2.1⟩
  ·have:=m.m.p (.inr e);exact ⟨.inl this.1,.inl this.2.1⟩
  ·have:=m.m.q e;exact ⟨.inl this.1,.inl this.2.1⟩
  ·have:=m.m.s e;exact ⟨.inr (hs _ this.1),.inl this.2.1⟩
 unfold missB
 obtain ⟨h1,h2⟩:=key
 rcases h1 with h1|h1<;>rcases h2 with h2|h2<;>simp [h1,h2]
theorem nm4_ok:∀n∈nm4,namedB n 12=true:=by
 intro n hn
 simp at hn
 rcases hn with rfl|rfl|rfl|rfl<;>rfl
theorem SC.valid {c:GCommand} (m:SC c):validB c=true:=mc_82 nm4_ok m.m
theorem SC.noN {c:GCommand} (m:SC c):isN c=false:=by
 have:=m.k
 simp [isN];omega
theorem filter_noN:∀{r:List GCommand},(∀c∈r,SC c)→r.filter isN=[]
 | [],_=>rfl
 | c::r,h=>by
  rw [List.filter_cons,(h c (by simp)).noN]
  exact filter_noN fun x hx=>h x (z8 _ hx)
theorem gs_any {x:List GCommand} (hn:x.length≤19) (hf:x.filter isN=four) (h:∀c∈x,isN c=false→SC c):GS x:=by
 have e1:nms x=nm4:=by unfold nms;rw [hf];rfl
 have e2:kds x=[1,2,1,2]:=by unfold kds;rw [hf];rfl
 have n4:N4 (nms x) (kds x):=by rw [e1,e2];exact ⟨rfl,rfl,rfl,rfl,by decide,rfl,rfl⟩
 have hsp:∀c∈x,c∈four∨SC c:=fun c hc=>by
  cases e:isN c with
  | true=>exact .inl (hf▸wC.2 ⟨hc,e⟩)
  | false=>exact .inr (h c hc e)
 have hfour:∀c∈four,validB c=true∧missB nm4 c=false∧isD c=false∧isA c=false:=by
  intro c hc
  simp at hc
  rcases hc with rfl|rfl|rfl|rfl<;>decide
 refine ⟨⟨fun c hc=>?_,by omega⟩,?_,hn,?_,?_,?_,fun c hc hd=>?_,fun c hc ha=>?_⟩
 ·rcases hsp c hc with h|h
  ·exact (hfour c h).1
  ·exact h.valid
 ·intro e;rw [e] at hf;cases hf
 ·rw [e1,cnt4];decide
 ·rw [e1];decide
 ·rw [List.any_eq_false]
  intro c hc
  rcases hsp c hc with h|h
  ·rw [e1,(hfour c h).2.1];simp
  ·rw [sc_miss (fun s hs=>by rw [e1];exact hs) h];simp
 ·rcases hsp c hc with h|h
  ·rw [(hfour c h).2.2.1] at hd;cases hd
  ·exact sc_d n4 h hd
 ·rcases hsp c hc with h|h
  ·rw [(hfour c h).2.2.2] at ha;cases ha
  ·exact sc_a n4 h ha
theorem gs_script {r:List GCommand} (hr:r.length≤13) (h:∀c∈r,SC c):GS (four++r):=by
 refine gs_any (by simp;omega) (by rw [List.filter_append,filter_noN h];rfl) fun c hc e=>?_
 rcases wD.1 hc with hc|hc
 ·simp at hc
  rcases hc with rfl|rfl|rfl|rfl<;>simp [isN] at e
 ·exact h c hc
end Go.Ab
set_option maxRecDepth 20000
namespace Go.Ab
open Go.Proofs
def isB (c:GCommand):Bool:=!decide (c.Kind≤2)&&!decide (10≤c.Kind)
theorem atT_filter (t:Int) (p:GCommand→Bool) (l:List GCommand):atT t (l.filter p)=(atT t l).filter p:=by unfold atT;exact List.filter_filter ..|>.trans (by rw [List.filter_filter];congr 1;funext c;exact Bool.and_comm _ _)
theorem srt_filter {x y:List GCommand} (hx:Srt x (srt x)) (hy:Srt y (srt y)) (p:GCommand→Bool) (h:∀t,(atT t x).filter p=(atT t y).filter p):(srt x).filter p=(srt y).filter p :=
 byT_eq _ _ (List.Pairwise.filter _ hx.s) (List.Pairwise.filter _ hy.s) fun t=>by rw [atT_filter,atT_filter,hx.f,hy.f,h]
structure Mv (b b':List GCommand):Prop where
 p:b'.Perm b
 f:∀t,atT t b'=atT t b
end Go.Ab
set_option maxRecDepth 20000
namespace Go.Ab
open Go.Proofs Classical
theorem rright_pos {d:GDirectory} {a:GEstate} (g:GoodD d) (h:Good a) {c p:Int} (h0:0≤c) (h1:c≤63) (hp:p≠-1):F_2c d a c p=some (decide (rdr d p)):=by
 simp only [F_2c,dvalid_of g,valid_eq,wL h,wL h0,wL h1,x8 hp,rreader_eq g,jn,grp,vE,vC,xV,wT]
theorem pla_nordr {d:GDirectory} {a:GEstate} {c p t:Int} (hp:p≠-1) (hr:¬rdr d p):pla d a c p t=none:=by
 unfold pla
 rw [List.find?_eq_none]
 intro x _
 simp only [see,if_neg hp,xK]
 exact fun hm=>hr hm.1.1
theorem rcould_eq {d:GDirectory} {a:GEstate} (g:GoodD d) (h:Good a) {c p t:Int} (h0:0≤c) (h1:c≤63) (hp:p≠-1) (hr:rdr d p) (t0:0≤t) (t1:t≤1099511627776):F_3a d a c p t=some (pla d a c p t).isSome:=by
 unfold F_3a
 rw [rright_pos g h h0 h1 hp,xV,wL hr]
 simp only [grp,x8 (show ¬t<0 by omega),x8 (show ¬1099511627776<t by omega),wR,Bool.or_self,vC]
 rw [rWhere_eq h h0 h1,xV]
 rw [forL_find (fun x=>if see d a p t x then some true else none) (whr a c t) 0 fun k x _=>by
  simp only [F_4q,x8 hp,vC,rmay_eq g h,xV,see,if_neg hp]
  by_cases q:mayP d a p x t<;>simp [q,flO]]
 simp only [xV,elim_flO,findL_find,pla]
 cases (whr a c t).find? (see d a p t)<;>rfl
theorem rtimes_mem {a:GEstate} (h:Good a):Ok (F_33 a) fun ts=>ts.length≤a.Events.length∧∀t,t∈ts↔∃x∈a.Events,x.Time=t:=by
 have hl:=h.len
 unfold F_33
 rw [valid_eq,wL h,xV,wR,vC]
 refine Ok.bind (Ok.foldI (all:=a.Events) (fun pre ts=>ts.length≤pre.length∧∀t,t∈ts↔∃x∈pre,x.Time=t) a.Events [] 0 _ rfl rfl ⟨w9 _,by simp⟩ (fun pre x r s hw hs=>?_) fun s hs=>hs) fun s hs=>Ok.ret hs
 obtain ⟨s1,s2⟩:=hs
 have hp:pre.length<a.Events.length:=by rw [hw];simp
 have hadd:(s++[x.Time]).length≤(pre++[x]).length∧∀t,t∈s++[x.Time]↔∃y∈pre++[x],y.Time=t:=by
  refine ⟨by simp;omega,fun t=>?_⟩
  rw [wD,s2,xE]
  constructor
  ·rintro (⟨y,hy,e⟩|rfl)
   ·exact ⟨y,List.mem_append_left _ hy,e⟩
   ·exact ⟨x,zT _ (xE.2 rfl),rfl⟩
  ·rintro ⟨y,hy,e⟩
   rcases wD.1 hy with hy|hy
   ·exact .inl ⟨y,hy,e⟩
   ·rw [xE] at hy;subst hy;exact .inr e.symm
 have hr:room (s.length+[x.Time].length) 8=true:=room_smD (by simp only [zU];omega)
 unfold F_4o
 refine Ok.ite (fun _=>Ok.chk hr (Ok.ret hadd)) fun c1=>?_
 have c1:=of_decide_eq_false c1
 refine Ok.chk (in64_smD (by omega) (by omega)) (Ok.chk (inb_iff.2 ⟨by omega,by omega⟩) (Ok.ite (fun _=>Ok.chk hr (Ok.ret hadd)) fun c2=>Ok.ret ⟨by simp;omega,fun t=>?_⟩))
 have c2:s.getD ((s.length:Int) - 1).toNat default=x.Time:=by simpa using c2
 have hm:x.Time∈s:=by
  rw [←c2,zE,zJ (by omega)]
  exact xZ _
 rw [←hadd.2 t,wD,xE]
 exact ⟨.inl,fun e=>e.elim id fun e=>e▸hm⟩
theorem rtimes_ok {d:GDirectory} {a:GEstate} (g:GoodD d) (h:Good a):Ok (F_35 d a) fun ts=>∀t,t∈ts↔t∈tms d a:=by
 have hl:=h.len
 have hd:=g.el
 unfold F_35
 refine Ok.bind (rtimes_mem h) fun s0 hs0=>Ok.bind (Ok.foldI (all:=d.Events) (fun pre ts=>ts.length≤120+pre.length∧∀t,t∈ts↔(∃x∈a.Events,x.Time=t)∨∃x∈pre,x.Time=t) d.Events [] 0 _ rfl rfl ⟨by simp;omega,fun t=>by rw [hs0.2];simp⟩ (fun pre x r s hw hs=>?_) fun s hs=>hs) fun s hs=>Ok.ret fun t=>by rw [hs.2,mem_tms]
 obtain ⟨s1,s2⟩:=hs
 have hp:pre.length<d.Events.length:=by rw [hw];simp
 unfold F_34
 refine Ok.bind (P:=fun r:Int=>0≤r∧r≤s.length) (Ok.loop (fun r:Int=>0≤r∧r≤s.length) (fun r=>((s.length:Int) - r).toNat) (fun r hr=>?_) _ ⟨vB 0,by omega⟩) fun r hr=>?_
 ·unfold F_3t
  refine Ok.ite (fun c=>?_) fun c=>Ok.ret hr
  have c:=of_decide_eq_true c
  exact Ok.chk (inb_iff.2 ⟨hr.1,by omega⟩) (Ok.ite (fun _=>Ok.chk (in64_smD (by omega) (by omega)) (Ok.ret ⟨⟨by omega,by omega⟩,by omega⟩)) fun _=>Ok.ret hr)
 ·obtain ⟨r0,r1⟩:=hr
  have key:s.take r.toNat++s.drop r.toNat=s:=List.take_append_drop _ _
  have ed:(s.drop r.toNat).take (s.length - r.toNat)=s.drop r.toNat:=zP (by simp)
  have hmem:∀t,(t∈s∨t=x.Time)↔(∃y∈a.Events,y.Time=t)∨∃y∈pre++[x],y.Time=t:=fun t=>by
   rw [s2]
   constructor
   ·rintro ((e|⟨y,hy,e⟩)|rfl)
    ·exact .inl e
    ·exact .inr ⟨y,List.mem_append_left _ hy,e⟩
    ·exact .inr ⟨x,zT _ (xE.2 rfl),rfl⟩
   ·rintro (e|⟨y,hy,e⟩)
    ·exact .inl (.inl e)
    ·rcases wD.1 hy with hy|hy
     ·exact .inl (.inr ⟨y,hy,e⟩)
     ·rw [xE] at hy;subst hy;exact .inr e.symm
  have hadd:(s.take r.toNat++([x.Time]++(s.drop r.toNat).take (s.length - r.toNat))).length≤120+(pre++[x]).length∧∀t,t∈s.take r.toNat++([x.Time]++(s.drop r.toNat).take (s.length - r.toNat))↔(∃y∈a.Events,y.Time=t)∨∃y∈pre++[x],y.Time=t:=by
   rw [ed]
   refine ⟨by simp only [xG,xX,List.length_drop,zU];omega,fun t=>?_⟩
   rw [←hmem]
   have:t∈s↔t∈s.take r.toNat∨t∈s.drop r.toNat:=by rw [←wD,key]
   rw [this]
   simp only [wD,xE]
   constructor
   ·rintro (e|e|e)
    ·exact .inl (.inl e)
    ·exact .inr e
    ·exact .inl (.inr e)
   ·rintro ((e|e)|e)
    ·exact .inl e
    ·exact .inr (.inr e)
    ·exact .inr (.inl e)
  have add:Ok (chk (inc 0 r s.length) (chk (inc r (s.length:Int) s.length) (chk (room ([x.Time].length+((s.drop r.toNat).take (s.length - r.toNat)).length) 8) (chk (roomc 0 r.toNat s.length ([x.Time]++(s.drop r.toNat).take (s.length - r.toNat)).length 8) (some (s.take r.toNat++([x.Time]++(s.drop r.toNat).take (s.length - r.toNat)))))))) fun ts=>ts.length≤120+(pre++[x]).length∧∀t,t∈ts↔(∃y∈a.Events,y.Time=t)∨∃y∈pre++[x],y.Time=t :=
   Ok.chk (inc_iff.2 ⟨by omega,by omega,by omega⟩) (Ok.chk (inc_iff.2 ⟨by omega,by omega,by omega⟩) (Ok.chk (room_smD (by rw [ed];simp only [zU,List.length_drop];omega)) (Ok.chk (roomc_iff.2 ⟨by omega,by rw [ed];simp only [xG,zU,List.length_drop];omega⟩) (Ok.ret hadd))))
  refine Ok.ite (fun _=>add) fun c1=>?_
  have c1:=of_decide_eq_false c1
  refine Ok.chk (inb_iff.2 ⟨r0,by omega⟩) (Ok.ite (fun _=>add) fun c2=>Ok.ret ⟨by simp;omega,fun t=>?_⟩)
  have c2:s.getD r.toNat default=x.Time:=by simpa using c2
  have hm:x.Time∈s:=by
   rw [←c2,zE,zJ (by omega)]
   exact xZ _
  rw [←hmem]
  exact ⟨.inl,fun e=>e.elim id fun e=>e▸hm⟩
theorem rsince_ok {d:GDirectory} {a:GEstate} (g:GoodD d) (h:Good a) {c p:Int} (h0:0≤c) (h1:c≤63) (hp:p≠-1):Ok (F_3b d a c p) fun y=>y.2=(sin d a c p).isSome:=by
 unfold F_3b
 rw [rright_pos g h h0 h1 hp,xV]
 by_cases hr:rdr d p
 ·rw [wL hr,wR,vC]
  refine Ok.bind (rtimes_ok g h) fun ts hts=>?_
  rw [forL_find (fun t=>if (pla d a c p t).isSome then some (t,true) else none) ts 0 fun k t ht=>by
   have hb:0≤t∧t≤1099511627776:=by
    rcases mem_tms.1 ((hts t).1 ht) with ⟨x,hx,rfl⟩|⟨x,hx,rfl⟩
    ·exact ⟨(h.ev x hx).1,(h.ev x hx).2.1⟩
    ·exact ⟨(g.ev x hx).2.1,(g.ev x hx).2.2.1⟩
   simp only [F_4r,rcould_eq g h h0 h1 hp hr hb.1 hb.2,xV]
   cases pla d a c p t<;>simp [flO]]
  simp only [xV,elim_flO,findL_find]
  have e:(ts.find? fun t=>(pla d a c p t).isSome).isSome=(sin d a c p).isSome:=by
   unfold sin
   rw [wK,List.find?_isSome,List.find?_isSome]
   exact ⟨fun ⟨x,hx,q⟩=>⟨x,(hts x).1 hx,q⟩,fun ⟨x,hx,q⟩=>⟨x,(hts x).2 hx,q⟩⟩
  rw [←e]
  cases ts.find? (fun t=>(pla d a c p t).isSome)<;>exact Ok.ret rfl
 ·rw [x8 hr,wN,vE]
  refine Ok.ret ?_
  have:sin d a c p=none:=by
   unfold sin
   rw [List.find?_eq_none]
   intro t _
   rw [pla_nordr hp hr];simp
  rw [this];rfl
end Go.Ab
set_option maxRecDepth 20000
namespace Go.Ab
open Go.Proofs
theorem rsplitB {s:Str} (b:UInt8) (h:s.length≤100000):F_27 s b=some (spl b s):=by
 refine Ok.eq ?_
 unfold F_27
 refine Ok.bind (Ok.loop (Q:=fun r:Int×List Str=>0≤r.1∧r.1≤s.length∧r.2.length≤s.length∧r.2++[s.drop r.1.toNat]=spl b s)
  (fun x:Int×Int×List Str=>∃a i:Nat,x.1=(a:Int)∧x.2.1=(i:Int)∧a≤i∧i≤s.length∧x.2.2.length≤i∧x.2.2++glue ((s.take i).drop a) (spl b (s.drop i))=spl b s)
  (fun x=>((s.length:Int) - x.2.1).toNat) (fun x hx=>?_) _ ⟨0,0,rfl,rfl,w9 _,w7 _,w7 _,?_⟩) fun r hr=>?_
 ·obtain ⟨x1,x2,out⟩:=x
  obtain ⟨a,i,rfl,rfl,ha,hi,hlen,he⟩:=hx
  simp only at hlen he
  unfold F_4h
  refine Ok.ite (fun hc=>?_) fun hc=>?_
  ·have hlt:i<s.length:=by have:=of_decide_eq_true hc;simp only at this;omega
   have hd:s.drop i=s[i]::s.drop (i+1):=List.drop_eq_getElem_cons hlt
   have hg:s.getD i 0=s[i]:=by rw [zE,zJ hlt];rfl
   have htk:(s.take (i+1)).drop a=(s.take i).drop a++[s[i]]:=by
    rw [List.take_succ_eq_append_getElem hlt,List.drop_append_of_le_length (by simp;omega)]
   have i1:in64 ((i:Int)+1)=true:=in64_iff.2 ⟨by omega,by omega⟩
   refine Ok.jn (P:=fun j:Int×List Str=>∃a':Nat,j.1=a'∧a'≤i+1∧j.2.length≤i+1∧j.2++glue ((s.take (i+1)).drop a') (spl b (s.drop (i+1)))=spl b s) ?_ fun j hj=>?_
   ·refine Ok.chk (inb_iff.2 ⟨by simp,by simpa using hlt⟩) (Ok.ite (fun hb=>?_) fun hb=>?_)
    ·have hb':s[i]=b:=by
      have:=of_decide_eq_true hb
      simp only [xR,hg] at this
      exact UInt8.toNat_inj.1 (by omega)
     refine Ok.chk (inc_iff.2 ⟨by simp,by simp;omega,by simp;omega⟩) (Ok.chk (room_iff.2 (by simp;omega)) (Ok.chk i1 (Ok.ret ⟨i+1,by simp,w9 _,by simp;omega,?_⟩)))
     simp only [xR]
     rw [hd,hb',spl,if_pos rfl] at he
     rw [←he,show (s.take (i+1)).drop (i+1)=[] from List.drop_eq_nil_of_le (by simp;omega),glue_nil (spl_ne b _)]
     simp [glue]
    ·have hb':s[i]≠b:=fun e=>by
      have:=of_decide_eq_false hb
      simp only [xR,hg,e] at this
      simp at this
     refine Ok.ret ⟨a,rfl,by omega,by simp;omega,?_⟩
     rw [hd,spl,if_neg hb',glue_glue] at he
     rw [htk,he]
   ·obtain ⟨a',e1,h1,h2,h3⟩:=hj
    refine Ok.chk i1 (Ok.ret ⟨⟨a',i+1,e1,by simp,h1,hlt,h2,h3⟩,?_⟩)
    simp only;omega
  ·have hge:i=s.length:=by have:=of_decide_eq_false hc;simp only at this;omega
   subst hge
   refine Ok.ret ⟨by simp,by simp;omega,by simpa using hlen,?_⟩
   rw [List.drop_length,xW] at he
   simpa [spl,glue] using he
 ·simp only [List.take_zero,List.drop_nil,wM,wB]
  exact glue_nil (spl_ne b s)
 ·obtain ⟨h0,h1,h2,h3⟩:=hr
  exact Ok.chk (inc_iff.2 ⟨h0,h1,by omega⟩) (Ok.chk (room_iff.2 (by simp;omega)) (Ok.ret h3))
theorem spl_cut (b:UInt8) (v:Str):∀u:Str,spl b (u++b::v)=spl b u++spl b v
 | []=>by simp [spl]
 | c::r=>by
  have ih:=spl_cut b v r
  rw [x3,spl,ih]
  by_cases e:c=b
  ·rw [if_pos e,spl,if_pos e];rfl
  ·rw [if_neg e,spl,if_neg e]
   have hn:=spl_ne b r
   revert hn
   cases spl b r with
   | nil=>intro hn;exact absurd rfl hn
   | cons x l=>intro _;rfl
theorem lines_end {α:Type} {f:α→Str}:∀l:List α,(∀x∈l,f x=[]∨∃w,f x=w++[10])→l.flatMap f=[]∨∃w,l.flatMap f=w++[10]
 | [],_=>.inl rfl
 | x::r,h=>by
  rw [xP]
  rcases lines_end r fun y hy=>h y (z8 _ hy) with e|⟨w,e⟩
  ·rw [e,wI];exact h x (by simp)
  ·rw [e];exact .inr ⟨f x++w,by rw [List.append_assoc]⟩
theorem spl_three {p A B:Str} (hp:p=[]∨∃w,p=w++[10]) (hA:∀c∈A,c≠10) (hB:∀c∈B,c≠10):∃q,spl 10 (p++((A++[10])++(B++[10])))=q++[A,B,[]]:=by
 have e:spl 10 ((A++[10])++(B++[10]))=[A,B,[]]:=by
  rw [List.append_assoc,List.singleton_append,spl_app _ hA,show B++[10]=B++10::[] from rfl,spl_app _ hB];rfl
 rcases hp with rfl|⟨w,rfl⟩
 ·exact ⟨[],by rw [wB,e];rfl⟩
 ·refine ⟨spl 10 w,?_⟩
  rw [List.append_assoc,List.singleton_append,spl_cut,e]
theorem spl_words {α:Type} (f:α→Str):∀(ps:List α) (W:Str),(∀c∈W,c≠32)→(∀p∈ps,∀c∈f p,c≠32)→spl 32 (W++ps.flatMap fun p=>32::f p)=W::ps.map f
 | [],W,hW,_=>by simp [spl_none hW]
 | p::r,W,hW,hp=>by
  rw [xP,x3,spl_app _ hW,spl_words f r (f p) (hp p (by simp)) fun q hq=>hp q (z8 _ hq)];rfl
theorem nm4_low (i:Nat):∀c∈nm4.getD i default,c≠10∧c≠32:=by
 by_cases h:i<4
 ·have:i=0∨i=1∨i=2∨i=3:=by omega
  rcases this with rfl|rfl|rfl|rfl<;>(intro c hc;simp at hc;rcases hc with rfl|rfl|rfl<;>decide)
 ·have:nm4.getD i default=[]:=by rw [zE,List.getElem?_eq_none (by simp;omega)];rfl
  rw [this];simp
abbrev whoC (t p:Int):GCommand:=⟨10,[],[],t,p,0⟩
abbrev sinC (n:Str) (c:Int):GCommand:=⟨11,n,[],0,c,0⟩
theorem whoC_sc {t p:Int} (t0:0≤t) (t1:t<20) (p0:0≤p) (p1:p<3):SC (whoC t p) :=
 ⟨⟨by show (1:Int)≤10∧(10:Int)≤11;omega,fun h=>by simp only at h;omega,fun h=>by simp only at h;omega,fun h=>by simp only at h;omega,fun h=>by simp only at h;omega,fun h=>by simp only at h;omega,fun _=>⟨rfl,rfl,rfl⟩,fun h=>by simp only at h;omega,by simp only;omega,by simp only;omega,by simp⟩,by show (3:Int)≤10;omega,fun h=>by simp only at h;omega,fun h=>by simp only at h;omega,fun h=>by simp only at h;omega⟩
theorem sinC_sc {n:Str} {c:Int} (hn:n∈nm4) (c0:0≤c) (c1:c<3):SC (sinC n c) :=
 ⟨⟨by show (1:Int)≤11∧(11:Int)≤11;omega,fun h=>by simp only at h;omega,fun h=>by simp only at h;omega,fun h=>by simp only at h;omega,fun h=>by simp only at h;omega,fun h=>by simp only at h;omega,fun h=>by simp only at h;omega,fun _=>⟨hn,rfl,rfl,rfl⟩,by simp,by simp only;omega,by simp⟩,by show (3:Int)≤11;omega,fun h=>by simp only at h;omega,fun h=>by simp only at h;omega,fun h=>by simp only at h;omega⟩
theorem ask_same {r:List GCommand} (hr:r.length≤13) (h:∀c∈r,SC c) {u v:GCommand} (hu:SC u) (hv:SC v) (ku:u.Kind=10) (kv:v.Kind=11) :
  GS (four++r++[u,v])∧nms (four++r++[u,v])=nm4∧nms (four++r)=nm4∧kds (four++r)=[1,2,1,2]∧mkD (four++r++[u,v])=mkD (four++r)∧mkE (four++r++[u,v])=mkE (four++r):=by
 have he:∀c∈[u,v],SC c:=fun c hc=>by simp at hc;rcases hc with rfl|rfl<;>assumption
 have gx:=gs_script hr h
 have fx:(four++r).filter isN=four:=by rw [List.filter_append,filter_noN h];rfl
 have fy:(four++r++[u,v]).filter isN=four:=by rw [List.filter_append,fx,filter_noN he,wI]
 have gy:GS (four++r++[u,v]):=by
  refine gs_any (by simp;omega) fy fun c hc e=>?_
  rcases wD.1 hc with hc|hc
  ·rcases wD.1 hc with hc|hc
   ·simp at hc
    rcases hc with rfl|rfl|rfl|rfl<;>simp [isN] at e
   ·exact h c hc
  ·exact he c hc
 have ex:nms (four++r)=nm4:=by unfold nms;rw [fx];rfl
 have ey:nms (four++r++[u,v])=nm4:=by unfold nms;rw [fy];rfl
 have kx:kds (four++r)=[1,2,1,2]:=by unfold kds;rw [fx];rfl
 have ky:kds (four++r++[u,v])=[1,2,1,2]:=by unfold kds;rw [fy];rfl
 have key:∀p:GCommand→Bool,p u=false→p v=false→(srt (four++r++[u,v])).filter p=(srt (four++r)).filter p:=fun p pu pv=>by
  refine srt_filter gy.srt gx.srt p fun t=>?_
  rw [←atT_filter,←atT_filter,List.filter_append]
  have:[u,v].filter p=[]:=by simp [pu,pv]
  rw [this,wI]
 refine ⟨gy,ey,ex,kx,?_,?_⟩
 ·unfold mkD evD
  rw [ex,ey,kx,ky,key isD (by simp [isD,ku]) (by simp [isD,kv])]
 ·unfold mkE evA
  rw [ex,ey,key isA (by simp [isA,ku]) (by simp [isA,kv])]
theorem whoT_no {x:List GCommand} (hn:nms x=nm4) (c:GCommand):∀b∈whoT x c,b≠10:=by
 intro b hb
 unfold whoT at hb
 rcases wD.1 hb with hb|hb
 ·revert hb
  cases (lkf c.A c.Time (mkE x).Events 0 (0,false)).2<;>intro hb<;>(simp at hb;rcases hb with rfl|rfl|rfl|rfl|rfl|rfl<;>decide)
 ·obtain ⟨p,_,hb⟩:=List.mem_flatMap.1 hb
  rcases wP.1 hb with rfl|hb
  ·decide
  ·rw [hn] at hb;exact (nm4_low _ b hb).1
theorem sinT_no {x:List GCommand} (h:GS x) (c:GCommand):(∀b∈sinT x c,b≠10)∧(decide (sinT x c=[110,101,118,101,114])=!(sin (mkD x) (mkE x) c.A (idxN (nms x) c.Name)).isSome):=by
 unfold sinT
 cases hs:sin (mkD x) (mkE x) c.A (idxN (nms x) c.Name) with
 | none =>
  refine ⟨fun b hb=>?_,by simp⟩
  simp at hb
  rcases hb with rfl|rfl|rfl|rfl|rfl<;>decide
 | some t =>
  have hm:t∈tms (mkD x) (mkE x):=List.mem_of_find?_eq_some hs
  have hb:0≤t:=by
   rcases mem_tms.1 hm with ⟨e,he,rfl⟩|⟨e,he,rfl⟩
   ·exact (h.ga.ev e he).1
   ·exact (h.gd.ev e he).2.1
  have hd:=itoa_pos hb
  refine ⟨fun b hb e=>?_,?_⟩
  ·have:=hd b hb
   subst e
   have h10:(10:UInt8).toNat=10:=rfl
   omega
  ·simp only [Option.isSome_some,wR,zK]
   intro e
   have:=hd 110 (by rw [e];simp)
   have h1:(110:UInt8).toNat=110:=rfl
   omega
end Go.Ab
set_option maxRecDepth 20000
namespace Go.Ab
open Go.Proofs
theorem nm4_idx {i:Int} (h0:0≤i) (h1:i<4):idxN nm4 (nm4.getD i.toNat default)=i∧nm4.getD i.toNat default∈nm4:=by
 have:i=0∨i=1∨i=2∨i=3:=by omega
 rcases this with rfl|rfl|rfl|rfl<;>exact ⟨rfl,by simp⟩
theorem ans_shape (x:List GCommand) (c:GCommand):ans x c=[]∨∃w,ans x c=w++[10]:=by
 unfold ans
 cases decide (c.Kind=10) with
 | true=>exact .inr ⟨_,rfl⟩
 | false =>
  cases decide (c.Kind=11) with
  | true=>exact .inr ⟨_,rfl⟩
  | false=>exact .inl rfl
theorem flat_ans {x:List GCommand} (h:GS x):∀l:List GCommand,(∀c∈l,VC c)→(l.flatMap (ans x)).length≤401*l.length
 | [],_=>by simp
 | c::r,hv=>by
  have ih:=flat_ans h r fun y hy=>hv y (z8 _ hy)
  have:=ans_len h (hv c (by simp))
  simp only [xP,xG,xY]
  omega
theorem last_three {q:List Str} {A B C:Str}:(q++[A,B,C]).getD q.length default=A∧(q++[A,B,C]).getD (q.length+1) default=B∧(q++[A,B,C]).getD (q.length+2) default=C:=by
 refine ⟨?_,?_,?_⟩<;>simp [zE,zD]
theorem spl_num (b:UInt8):∀s:Str,(spl b s).length≤s.length+1
 | []=>by simp [spl]
 | c::r=>by
  have ih:=spl_num b r
  rw [spl]
  by_cases e:c=b
  ·rw [if_pos e];simp only [xY];omega
  ·rw [if_neg e]
   revert ih
   cases spl b r with
   | nil=>intro _;simp [glue]
   | cons x l=>intro ih;simp only [glue,xY] at ih ⊢;omega
theorem tells44 {tape:List Int} (ht:(V.sl (tape.map (V.int .i64))).fact):F_45 tape=some true:=by
 have h0:TO (GTape.mk tape 0):=⟨vB 0,Int.ofNat_le.2 (fact_sl ht)⟩
 refine Ok.eq ?_
 unfold F_45
 refine Ok.ite (fun _=>by rw [awake44];exact Ok.ret rfl) fun _=>?_
 refine Ok.bind (script_sc h0) fun y hy=>?_
 obtain ⟨⟨r,hx,hr,hm⟩,hT⟩:=hy
 have hl:y.1.length≤17:=by rw [hx];simp;omega
 have gx:=gs_script hr hm
 obtain ⟨_,_,ex,kx,_,_⟩:=ask_same (u:=whoC 0 0) (v:=sinC nAnn 0) hr hm (whoC_sc (by omega) (by omega) (by omega) (by omega)) (sinC_sc (by simp) (by omega) (by omega)) rfl rfl
 have hmk:F_n y.1=some (mkD (four++r),mkE (four++r),nm4,0):=by rw [hx,Make_eq gx,ex];unfold mkD mkE;rw [ex]
 rw [hmk,xV]
 have hkl:(mkD (four++r)).Kinds.length=4:=by show (kds (four++r)).length=4;rw [kx];rfl
 have e15:(!decide True||!decide (((nm4.length:Nat):Int)=(((mkD (four++r)).Kinds.length:Nat):Int))||!decide (((nm4.length:Nat):Int)=4))=false:=by rw [hkl];rfl
 simp only [grp]
 rw [e15,vC]
 refine Ok.bind (nx_ok hT (by omega)) fun y21 h21=>Ok.bind (nx_ok h21.2.2 (by omega)) fun y22 h22=>Ok.bind (nx_ok h22.2.2 (by omega)) fun y23 h23=>Ok.bind (nx_ok h23.2.2 (by omega)) fun y24 h24=>?_
 obtain ⟨t0,t1,_⟩:=h21
 obtain ⟨p0,p1,_⟩:=h22
 obtain ⟨c0,c1,_⟩:=h23
 obtain ⟨n0,n1,_⟩:=h24
 obtain ⟨ei,hin⟩:=nm4_idx n0 n1
 refine Ok.chk (room_iff.2 (by omega)) (Ok.chk (inb_iff.2 ⟨n0,n1⟩) (Ok.chk (room_iff.2 (by simp only [xY,wE];omega)) ?_))
 obtain ⟨gy,ey,_,_,mD,mE⟩:=ask_same (u:=whoC y21.1 y22.1) (v:=sinC (nm4.getD y24.1.toNat default) y23.1) hr hm (whoC_sc t0 t1 p0 p1) (sinC_sc hin c0 c1) rfl rfl
 have hrun:F_h (y.1++[whoC y21.1 y22.1,sinC (nm4.getD y24.1.toNat default) y23.1])=some ((four++r++[whoC y21.1 y22.1,sinC (nm4.getD y24.1.toNat default) y23.1]).flatMap (ans (four++r++[whoC y21.1 y22.1,sinC (nm4.getD y24.1.toNat default) y23.1])),0):=by rw [hx,Run_eq gy]
 show Ok ((F_h (y.1++[whoC y21.1 y22.1,sinC (nm4.getD y24.1.toNat default) y23.1])).bind _) _
 rw [hrun,xV]
 generalize hX:four++r++[whoC y21.1 y22.1,sinC (nm4.getD y24.1.toNat default) y23.1]=X at gy ey mD mE
 have hpair:([whoC y21.1 y22.1,sinC (nm4.getD y24.1.toNat default) y23.1]:List GCommand).flatMap (ans X)=(whoT X (whoC y21.1 y22.1)++[10])++(sinT X (sinC (nm4.getD y24.1.toNat default) y23.1)++[10]):=by
  simp only [xP,List.flatMap_nil,wI]
  rfl
 have htx:X.flatMap (ans X)=(four++r).flatMap (ans X)++((whoT X (whoC y21.1 y22.1)++[10])++(sinT X (sinC (nm4.getD y24.1.toNat default) y23.1)++[10])):=by
  rw [←hpair,←List.flatMap_append,hX]
 have hlen:(X.flatMap (ans X)).length≤100000:=by
  have:=flat_ans gy X gy.sc.vc
  have:=gy.n
  omega
 obtain ⟨sno,seq⟩:=sinT_no gy (sinC (nm4.getD y24.1.toNat default) y23.1)
 obtain ⟨q,hq⟩:=spl_three (lines_end (f:=ans X) (four++r) fun c _=>ans_shape X c) (whoT_no ey (whoC y21.1 y22.1)) sno
 rw [←htx] at hq
 simp only [decide_true,wR,vC]
 rw [rsplitB 10 hlen,hq,xV]
 obtain ⟨g1,g2,g3⟩:=last_three (q:=q) (A:=whoT X (whoC y21.1 y22.1)) (B:=sinT X (sinC (nm4.getD y24.1.toNat default) y23.1)) (C:=[])
 have hL:(q++[whoT X (whoC y21.1 y22.1),sinT X (sinC (nm4.getD y24.1.toNat default) y23.1),[]]).length=q.length+3:=by simp
 have hql:q.length≤1000000:=by
  have:(spl 10 (X.flatMap (ans X))).length≤(X.flatMap (ans X)).length+1:=spl_num _ _
  rw [hq,hL] at this
  omega
 rw [hL]
 have i3:(((q.length+3:Nat):Int) - 1).toNat=q.length+2:=by omega
 have i2:(((q.length+3:Nat):Int) - 2).toNat=q.length+1:=by omega
 have i1:(((q.length+3:Nat):Int) - 3).toNat=q.length:=by omega
 refine Ok.ite (fun c=>by have:=of_decide_eq_true c;omega) fun _=>?_
 refine Ok.chk (in64_s (by omega) (by omega)) (Ok.chk (inb_iff.2 ⟨by omega,by omega⟩) ?_)
 rw [i3,g3]
 simp only [decide_true,wR,vC]
 rw [rwho_eq gx.gd gx.ga y21.1 p0 (by show y22.1≤(16:Int) - 1;omega),xV]
 simp only [decide_true,wR,vC]
 refine Ok.chk (in64_s (by omega) (by omega)) (Ok.chk (inb_iff.2 ⟨by omega,by omega⟩) ?_)
 rw [i1,g1]
 have hms:=mays_in (d:=mkD (four++r)) (a:=mkE (four++r)) (pl:=y22.1) (t:=y21.1)
 rw [hkl] at hms
 have hwl:=(who_line gy (c:=whoC y21.1 y22.1) (by show 0≤y22.1∧y22.1≤15;omega)).2
 have hsp:spl 32 (whoT X (whoC y21.1 y22.1))=(bif (lkf y22.1 y21.1 (mkE (four++r)).Events 0 (0,false)).2 then [112,117,98,108,105,99] else [105,110,115,105,100,101])::(mays (mkD (four++r)) (mkE (four++r)) y22.1 y21.1).map fun p=>nm4.getD p.toNat default:=by
  unfold whoT
  rw [mD,mE,ey]
  refine spl_words _ _ _ ?_ fun p _ c hc=>(nm4_low _ c hc).2
  cases (lkf y22.1 y21.1 (mkE (four++r)).Events 0 (0,false)).2<;>decide
 rw [rsplitB 32 (by omega),hsp,xV]
 refine Ok.chk (in64_s (by omega) (by omega)) ?_
 have hd1:decide (((((bif (lkf y22.1 y21.1 (mkE (four++r)).Events 0 (0,false)).2 then [112,117,98,108,105,99] else [105,110,115,105,100,101])::(mays (mkD (four++r)) (mkE (four++r)) y22.1 y21.1).map fun p=>nm4.getD p.toNat default:List Str).length:Nat):Int)=1+(((mays (mkD (four++r)) (mkE (four++r)) y22.1 y21.1).length:Nat):Int))=true:=wL (by simp only [xY,wF];omega)
 rw [hd1]
 simp only [wR,vC]
 refine Ok.chk (inb_iff.2 ⟨vB 0,by simp only [xY];omega⟩) ?_
 have hpub:(!(decide ((((bif (lkf y22.1 y21.1 (mkE (four++r)).Events 0 (0,false)).2 then [112,117,98,108,105,99] else [105,110,115,105,100,101])::(mays (mkD (four++r)) (mkE (four++r)) y22.1 y21.1).map fun p=>nm4.getD p.toNat default:List Str).getD 0 default)=[112,117,98,108,105,99])==(lkf y22.1 y21.1 (mkE (four++r)).Events 0 (0,false)).2))=false:=by
  rw [List.getD_cons_zero]
  cases (lkf y22.1 y21.1 (mkE (four++r)).Events 0 (0,false)).2<;>rfl
 rw [hpub,vC]
 generalize (bif (lkf y22.1 y21.1 (mkE (four++r)).Events 0 (0,false)).2 then ([112,117,98,108,105,99]:Str) else [105,110,115,105,100,101])=W
 generalize hM:mays (mkD (four++r)) (mkE (four++r)) y22.1 y21.1=M at hms
 refine Ok.bind (P:=fun o:Fl Unit Bool=>o=.nx ()) (Ok.forI (all:=M) (fun _ _=>True) M [] 0 () rfl rfl trivial (fun pre x r' s hw _=>?_) fun s _=>rfl) fun o ho=>?_
 ·have hpl:pre.length<M.length:=by rw [hw];simp
  have hxm:x∈M:=by rw [hw];simp
  have hxb:=hms.1 x hxm
  unfold F_3f
  refine Ok.chk (in64_s (by omega) (by omega)) (Ok.chk (inb_iff.2 ⟨by omega,by simp only [xY,wF];omega⟩) (Ok.chk (inb_iff.2 ⟨hxb.1,hxb.2⟩) ?_))
  have e1:(1+(pre.length:Int)).toNat=pre.length+1:=by omega
  have e2:(W::M.map fun p=>nm4.getD p.toNat default).getD (pre.length+1) default=nm4.getD x.toNat default:=by
   rw [List.getD_cons_succ,hw]
   simp [zE]
  rw [e1,e2,wL rfl]
  exact Ok.ret trivial
 ·subst ho
  rw [Fl_nx]
  refine Ok.bind (rsince_ok gx.gd gx.ga c0 (by omega) (by omega)) fun z hz=>?_
  refine Ok.chk (in64_s (by omega) (by omega)) (Ok.chk (inb_iff.2 ⟨by omega,by omega⟩) ?_)
  have hfin:(z.2==!(decide (sinT X (sinC (nm4.getD y24.1.toNat default) y23.1)=[110,101,118,101,114])))=true:=by
   rw [seq,hz,mD,mE,ey]
   show ((sin (mkD (four++r)) (mkE (four++r)) y23.1 y24.1).isSome==!(!(sin (mkD (four++r)) (mkE (four++r)) y23.1 (idxN nm4 (nm4.getD y24.1.toNat default))).isSome))=true
   rw [ei,Bool.not_not,beq_self_eq_true]
  rw [i2,g2,hfin,vE,awake44]
  exact Ok.ret rfl
theorem acall_fact2 {P:Program} {f:FuncId} {ys:List V} {H:Heap} {Q:V→Heap→Prop} (hc:callable P f=true) (h:(∀y∈ys,y.fact)→ACall P f ys H Q):ACall P f ys H Q :=
 ⟨hc,fun g w vals hH hs hr=>(h fun y hy=>by
  obtain ⟨i,hi⟩:=List.getElem?_of_mem hy
  exact (hr i y hi).fact).2 g w vals hH hs hr⟩
theorem call44t {tape:List Int}:ACall Tryz.prog 4 [.sl (tape.map (V.int .i64))] [] (fun r H=>r=.bool true∧H=[]) :=
 acall_fact2 (by kernel_rfl) fun h=>Wq_law44_ConsoleTells.c.w (tells44 (h _ (by simp)))
end Go.Ab
