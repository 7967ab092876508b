/- Numbers and words of a line (for chapter 43). -/
import Derived.Test.YtnaeedamiaoipaaGreatDoorAbMC
import Derived.Lib.Join
import Derived.Test.YtnaeedamiaoipaaGreatDoorLO
import Derived.Test.YtnaeedamiaoipaaGreatDoorAbUns
set_option linter.all false
namespace Go.Ab
open Go.Proofs
theorem b2a (u:Nat):∀c∈Lib.decDigits u,48≤c.toNat∧c.toNat≤57:=by
 induction u using Nat.strongRecOn with
 | _ u ih =>
  intro c hc
  rw [Lib.decDigits] at hc
  split at hc
  ·rename_i h
   simp at hc;subst hc
   simp;omega
  ·rcases wJ.1 hc with hc|hc
   ·exact ih (u / 10) (by omega) c hc
   ·simp at hc;subst hc
    simp;omega
theorem c8v (u:Nat) (h:u≤18446744073709551615) (l:Str):Lib.parseUint10 0 (Lib.decDigits u++l)=Lib.parseUint10 u l:=by
 induction u using Nat.strongRecOn generalizing l with
 | _ u ih =>
  rw [Lib.decDigits]
  split
  ·rename_i hu
   have e:(UInt8.ofNat (48+u)).toNat=48+u:=by simp;omega
   simp only [wA,wH,Lib.parseUint10,e]
   rw [if_pos (by omega),if_neg (by omega),if_neg (by omega)]
   congr 1;omega
  ·rename_i hu
   rw [List.append_assoc,ih (u / 10) (by omega) (by omega)]
   have e:(UInt8.ofNat (48+u % 10)).toNat=48+u % 10:=by simp;omega
   simp only [wA,wH,Lib.parseUint10,e]
   rw [if_pos (by omega),if_neg (by omega),if_neg (by omega)]
   congr 1;omega
theorem d0y (u:Nat):Lib.decDigits u≠[]:=by rw [Lib.decDigits];split<;>simp
theorem c9k (u:Nat) (h:u≤18446744073709551615):Lib.parseMag (Lib.decDigits u)=.ok u:=by
 have hp:=c8v u h []
 rw [wO] at hp
 unfold Lib.parseMag
 rw [if_neg (d0y u),hp];rfl
theorem b59 {n:Int} (h0:-9223372036854775808≤n) (h1:n≤9223372036854775807):c0k (Lib.itoa n)=some (n,true):=by
 have key:Lib.atoiAll (Lib.itoa n)=.ok n∧(Lib.itoa n).length≤21:=by
  refine ⟨?_,Lib.itoa_length_le n h0 h1⟩
  by_cases c:0≤n
  ·obtain ⟨u,rfl⟩:=Int.eq_ofNat_of_zero_le c
   rw [Lib.itoa_nonneg]
   have hb:=b2a u
   cases hd:Lib.decDigits u with
   | nil=>exact absurd hd (d0y u)
   | cons c r =>
    have h1:=hb c (by rw [hd];simp)
    rw [Lib.atoiAll_plain c r (by omega) (by omega),←hd,c9k u (by omega)]
    simp only [Lib.signless]
    rw [if_neg (by omega)]
  ·obtain ⟨u,hu⟩:∃u:Nat,n=-(u:Int):=⟨(-n).toNat,by omega⟩
   subst hu
   rw [Lib.itoa_neg u (by omega),Lib.atoiAll_minus,c9k u (by omega)]
   simp only [Lib.signed]
   rw [if_neg (by omega)]
 refine Ok.eq (Ok.chk (wR (by omega)) (Ok.ret ?_))
 unfold a4c b0y
 rw [key.1]
theorem b3z (b:UInt8):∀s,spl b s≠[]
 | []=>by simp [spl]
 | c::r=>by
  simp only [spl]
  split
  ·simp
  ·cases spl b r<;>simp [glue]
theorem c4f {l:List Str} (h:l≠[]):glue [] l=l:=by cases l with|nil=>exact absurd rfl h|cons a t=>simp [glue]
theorem d09 (a b:Str) (l:List Str):glue a (glue b l)=glue (a++b) l:=by cases l<;>simp [glue]
theorem b0d (sep a:Str) (l:List Str):Lib.joinTail sep (a::l)=sep++a++Lib.joinTail sep l:=by simp [Lib.joinTail]
theorem b7d {b:UInt8}:∀(l:List Str) (a:Str),(∀w∈a::l,∀c∈w,c≠b)→spl b (Lib.join (a::l) [b])=a::l
 | [],a,h=>by
  rw [Lib.join_cons]
  simpa [Lib.joinTail] using b3h (h a (by simp))
 | x::l,a,h=>by
  have ih:=b7d (b:=b) l x fun w hw=>h w (xB _ hw)
  rw [Lib.join_cons] at ih
  rw [Lib.join_cons,b0d]
  have e:a++([b]++x++Lib.joinTail [b] l)=a++b::(x++Lib.joinTail [b] l):=by simp
  rw [e,c1e _ (h a (by simp)),ih]
set_option maxRecDepth 20000
deriving instance DecidableEq for d9
inductive Fd
 | nm|ot|tm
 | fa (m:Int)|fb (m:Int)
def Fd.g:Fd→a1r
 | .nm=>⟨some 142,none,0⟩
 | .ot=>⟨some 143,none,0⟩
 | .tm=>⟨none,some 141,1000000⟩
 | .fa m=>⟨none,some 144,m⟩
 | .fb m=>⟨none,some 145,m⟩
def Fd.get (c:d9):Fd→Str
 | .nm=>c.Name
 | .ot=>c.Other
 | .tm=>Lib.itoa c.Time
 | .fa _=>Lib.itoa c.A
 | .fb _=>Lib.itoa c.B
def Fd.zero (c:d9):Fd→d9
 | .nm=>⟨c.Kind,[],c.Other,c.Time,c.A,c.B⟩
 | .ot=>⟨c.Kind,c.Name,[],c.Time,c.A,c.B⟩
 | .tm=>⟨c.Kind,c.Name,c.Other,0,c.A,c.B⟩
 | .fa _=>⟨c.Kind,c.Name,c.Other,c.Time,0,c.B⟩
 | .fb _=>⟨c.Kind,c.Name,c.Other,c.Time,c.A,0⟩
def Fd.cp (s c:d9):Fd→d9
 | .nm=>⟨c.Kind,s.Name,c.Other,c.Time,c.A,c.B⟩
 | .ot=>⟨c.Kind,c.Name,s.Other,c.Time,c.A,c.B⟩
 | .tm=>⟨c.Kind,c.Name,c.Other,s.Time,c.A,c.B⟩
 | .fa _=>⟨c.Kind,c.Name,c.Other,c.Time,s.A,c.B⟩
 | .fb _=>⟨c.Kind,c.Name,c.Other,c.Time,c.A,s.B⟩
def rgb (x m:Int):Bool:=decide (0≤x)&&decide (x<m)
theorem a99 {x m:Int}:(rgb x m=true)=(0≤x∧x<m):=by simp [rgb]
def Fd.ok (c:d9):Fd→Bool
 | .nm=>a2x c.Name 12
 | .ot=>a2x c.Other 12
 | .tm=>rgb c.Time 1000000
 | .fa m=>rgb c.A m
 | .fb m=>rgb c.B m
def a4z:List (Str×List Fd) :=
 [([112,101,114,115,111,110],[.nm]),([103,114,111,117,112],[.nm]),
  ([106,111,105,110],[.tm,.nm,.ot]),([108,101,97,118,101],[.tm,.nm,.ot]),
  ([97,108,108,111,119],[.tm,.nm,.fa 16]),([102,111,114,98,105,100],[.tm,.nm,.fa 16]),
  ([111,112,101,110],[.tm,.fa 16,.fb 1000000]),([112,117,116],[.tm,.fa 64,.fb 16]),
  ([99,111,112,121],[.tm,.fa 16,.fb 16]),([119,104,111],[.tm,.fa 16]),([115,105,110,99,101],[.fa 64,.nm])]
def b2u:List a3v:=a4z.map fun k=>⟨k.1,k.2.map Fd.g⟩
theorem b3p:d83=some b2u:=rfl
def c6s:Bool→d9→List Fd→Bool
 | b,_,[]=>b
 | b,c,f::r=>c6s (f.ok c&&b) (f.zero c) r
theorem right_eq (f:Fd) (c:d9):f4x f.g c=some (f.ok c,f.zero c):=by
 cases f<;>simp [f4x,Fd.g,Fd.ok,rgb,Fd.zero,d6g,d6h,d6d,d6e,d6f,b98,jn]<;>(first|(cases decide (0≤c.Time)<;>rfl)|(cases decide (0≤c.A)<;>rfl)|(cases decide (0≤c.B)<;>rfl))
theorem b5x:∀(fs:List Fd) (k:Int) (b:Bool) (c:d9),foldL f7k (fs.map Fd.g) k (b,c)=some (c6s b c fs,fs.foldl Fd.zero c)
 | [],_,_,_=>rfl
 | f::r,k,b,c=>by
  simp only [wW,foldL,f7k,right_eq,xY,grp]
  exact b5x r _ _ _
def kindOf (k:Int):Str×List Fd:=a4z.getD (k - 1).toNat ([],[])
def b73 (k:Int):d9:=⟨k,[],[],0,0,0⟩
def a1n (c:d9):Bool:=decide (1≤c.Kind)&&(decide (c.Kind≤11)&&(c6s true c (kindOf c.Kind).2&&decide ((kindOf c.Kind).2.foldl Fd.zero c=b73 c.Kind)))
theorem a8u:b2u.length=11:=rfl
theorem b0j {k:Int} (h0:1≤k) (h1:k≤11):b2u.getD (k - 1).toNat default=⟨(kindOf k).1,(kindOf k).2.map Fd.g⟩:=by
 unfold kindOf b2u
 have h:(k - 1).toNat<a4z.length:=by show (k - 1).toNat<11;omega
 rw [zE,xR,zJ h,zE,zJ h]
 rfl
theorem b8n:∀(fs:List Fd) (c:d9),(fs.foldl Fd.zero c).Kind=c.Kind
 | [],_=>rfl
 | f::r,c=>by rw [wM,b8n r];cases f<;>rfl
theorem b1f (c:d9):e4t c=some (a1n c):=by
 unfold e4t a1n
 by_cases h0:1≤c.Kind
 ·by_cases h1:c.Kind≤11
  ·have e1:decide (c.Kind<1)=false:=wE (by omega)
   have e2:decide (11<c.Kind)=false:=wE (by omega)
   simp only [grp,e1,e2,Bool.or_self,vL,b3p,xY,a8u]
   rw [o5 (x8.2 (by omega)),o5 (p8.2 (by omega)),b0j h0 h1]
   simp only [b5x,xY,jn]
   rw [wR h0,wR h1]
   cases hA:c6s true c (kindOf c.Kind).2 with
   | false=>simp
   | true =>
    have hk:=b8n (kindOf c.Kind).2 c
    generalize (kindOf c.Kind).2.foldl Fd.zero c=d at hk ⊢
    cases d
    simp only at hk
    subst hk
    simp [b73,d9.mk.injEq]
  ·have e2:decide (11<c.Kind)=true:=wR (by omega)
   have e3:decide (c.Kind≤11)=false:=wE h1
   simp [grp,e2,e3]
 ·have e1:decide (c.Kind<1)=true:=wR (by omega)
  have e3:decide (1≤c.Kind)=false:=wE h0
  simp [grp,e1,e3]
def c5u (c:d9):Prop:=a0j c.Time=true∧a0j c.A=true∧a0j c.B=true
theorem d4z (f:Fd) (c:d9) (h:c5u c) (k:Int) (x:List Str) (hx:x.length≤10):f4f c k f.g x=some (x++[f.get c]):=by
 have hr:room (x.length+1) 16=true:=a0z.2 (by omega)
 obtain ⟨h1,h2,h3⟩:=h
 have r1:∀z:Str,room (x.length+[z].length) 16=true:=fun z=>hr
 have i1:a5l c.Time=some (Lib.itoa c.Time):=o5 h1
 have i2:a5l c.A=some (Lib.itoa c.A):=o5 h2
 have i3:a5l c.B=some (Lib.itoa c.B):=o5 h3
 cases f<;>simp [f4f,Fd.g,Fd.get,d6g,d6h,d6d,d6e,d6f,i1,i2,i3,o5 hr]
theorem b9g (c:d9) (h:c5u c):∀(fs:List Fd) (k:Int) (x:List Str),x.length+fs.length≤10→foldL (f4f c) (fs.map Fd.g) k x=some (x++fs.map (Fd.get c))
 | [],_,x,_=>by simp [foldL]
 | f::r,k,x,hl=>by
  simp only [x5] at hl
  simp only [wW,foldL]
  rw [d4z f c h _ _ (by omega),xY,b9g c h r _ _ (by simp;omega)]
  simp
def wdC (c:d9):List Str:=(kindOf c.Kind).1::(kindOf c.Kind).2.map (Fd.get c)
def lnC (c:d9):Str:=Lib.join (wdC c) [32]++[10]
structure VC (c:d9):Prop where
 k0:1≤c.Kind
 k1:c.Kind≤11
 ok:∀f∈(kindOf c.Kind).2,f.ok c=true
 cp:(kindOf c.Kind).2.foldl (Fd.cp c) (b73 c.Kind)=c
 t:0≤c.Time∧c.Time<1000000
 a:0≤c.A∧c.A<1000000
 b:0≤c.B∧c.B<1000000
 n:c.Name.length≤12
 o:c.Other.length≤12
theorem a7v {s:Str}:a2x s 12=true↔(∀x∈s,97≤x.toNat∧x.toNat≤122)∧1≤s.length∧s.length≤12:=by
 simp [a2x,letters]
 omega
theorem kinds {k:Int} (h0:1≤k) (h1:k≤11):k=1∨k=2∨k=3∨k=4∨k=5∨k=6∨k=7∨k=8∨k=9∨k=10∨k=11:=by omega
theorem a7o {c:d9} (h:a1n c=true):VC c:=by
 unfold a1n at h
 simp only [wC,xN] at h
 obtain ⟨h0,h1,h2,h3⟩:=h
 have hn:∀{s:Str},a2x s 12=true→s.length≤12:=fun h=>(a7v.1 h).2.2
 obtain ⟨K,N,O,T,A,B⟩:=c
 simp only at h0 h1 h2 h3
 rcases kinds h0 h1 with h|h|h|h|h|h|h|h|h|h|h<;>subst h <;>
  simp [kindOf,a4z,c6s,Fd.ok,Fd.zero,b73,List.getD_cons_succ] at h2 h3<;>(try simp only [a99] at h2) <;>
  refine ⟨h0,h1,?_,?_,?_,?_,?_,?_,?_⟩<;>simp [kindOf,a4z,Fd.ok,a99,Fd.cp,b73,h2,h3,hn]<;>(try omega)<;>(try exact hn (by simp [h2]))
theorem VC.num {c:d9} (h:VC c):c5u c:=⟨x8.2 (by have:=h.t;omega),x8.2 (by have:=h.a;omega),x8.2 (by have:=h.b;omega)⟩
theorem b0c (k:Int):(kindOf k).2.length≤3:=by
 by_cases h:1≤k∧k≤11
 ·rcases kinds h.1 h.2 with h|h|h|h|h|h|h|h|h|h|h<;>subst h<;>decide
 ·by_cases h2:(k - 1).toNat=0
  ·have:kindOf k=kindOf 1:=by unfold kindOf;rw [h2];rfl
   rw [this];decide
  ·have h3:a4z.length≤(k - 1).toNat:=by show 11≤_;omega
   unfold kindOf
   rw [zE,List.getElem?_eq_none h3]
   decide
theorem b4p (k:Int):(kindOf k).1.length≤6∧∀x∈(kindOf k).1,x≠32∧x≠10:=by
 by_cases h:1≤k∧k≤11
 ·rcases kinds h.1 h.2 with h|h|h|h|h|h|h|h|h|h|h<;>subst h<;>decide
 ·by_cases h2:(k - 1).toNat=0
  ·have:kindOf k=kindOf 1:=by unfold kindOf;rw [h2];rfl
   rw [this];decide
  ·have h3:a4z.length≤(k - 1).toNat:=by show 11≤_;omega
   unfold kindOf
   rw [zE,List.getElem?_eq_none h3]
   decide
theorem b7u {n:Int} (h:0≤n):∀x∈Lib.itoa n,48≤x.toNat∧x.toNat≤57:=by
 obtain ⟨u,rfl⟩:=Int.eq_ofNat_of_zero_le h
 rw [Lib.itoa_nonneg]
 exact b2a u
theorem f0p {c:d9} {f:Fd} (h:f.ok c=true) (hn:c5u c):(f.get c).length≤21∧∀x∈f.get c,x≠32∧x≠10:=by
 have hl:∀{n:Int},a0j n=true→(Lib.itoa n).length≤21:=fun h=>Lib.itoa_length_le _ (x8.1 h).1 (x8.1 h).2
 have hx:∀{x:UInt8},48≤x.toNat→x≠32∧x≠10:=fun h=>⟨fun e=>by subst e;simp at h,fun e=>by subst e;simp at h⟩
 cases f with
 | nm=>exact ⟨by have:=(a7v.1 h).2.2;show c.Name.length≤21;omega,fun x hm=>hx (by have:=(a7v.1 h).1 x hm;omega)⟩
 | ot=>exact ⟨by have:=(a7v.1 h).2.2;show c.Other.length≤21;omega,fun x hm=>hx (by have:=(a7v.1 h).1 x hm;omega)⟩
 | tm=>exact ⟨hl hn.1,fun x hm=>hx (b7u ((a99▸h:_∧_).1) x hm).1⟩
 | fa m=>exact ⟨hl hn.2.1,fun x hm=>hx (b7u ((a99▸h:_∧_).1) x hm).1⟩
 | fb m=>exact ⟨hl hn.2.2,fun x hm=>hx (b7u ((a99▸h:_∧_).1) x hm).1⟩
theorem c7c {c:d9} (h:VC c):∀w∈wdC c,w.length≤21∧∀x∈w,x≠32∧x≠10:=by
 intro w hw
 rcases wV.1 hw with rfl|hw
 ·exact ⟨by have:=(b4p c.Kind).1;omega,(b4p c.Kind).2⟩
 ·obtain ⟨f,hf,rfl⟩:=vD.1 hw
  exact f0p (h.ok f hf) h.num
theorem g36 {n:Nat}:∀(l:List Str) (a:Str),(∀w∈a::l,w.length≤n)→(Lib.join (a::l) [32]).length≤(n+1)*(l.length+1)
 | [],a,h=>by
  have:=h a (by simp)
  rw [Lib.join_cons];simp [Lib.joinTail];omega
 | x::l,a,h=>by
  have ih:=g36 l x fun w hw=>h w (xB _ hw)
  have:=h a (by simp)
  rw [Lib.join_cons] at ih
  rw [Lib.join_cons,b0d,xI,xI,xI,show (x::l).length+1=(l.length+1)+1 from rfl,Nat.mul_add (n+1) (l.length+1) 1]
  rw [xI] at ih
  simp only [x5,wK]
  omega
def bdC (c:d9):Str:=Lib.join (wdC c) [32]
theorem a7y (c:d9):lnC c=bdC c++[10]:=rfl
theorem a8e {c:d9} (h:VC c):(bdC c).length≤88:=by
 have:=g36 (n:=21) ((kindOf c.Kind).2.map (Fd.get c)) (kindOf c.Kind).1 fun w hw=>(c7c h w hw).1
 have h3:=b0c c.Kind
 rw [wL] at this
 have:(21+1)*((kindOf c.Kind).2.length+1)≤22*4:=Nat.mul_le_mul_left 22 (by omega)
 show (Lib.join _ _).length≤88
 unfold wdC
 omega
theorem c36 {c:d9} (h:VC c):e6i c=some (lnC c):=by
 have h3:=b0c c.Kind
 have hk0:=h.k0
 have hk1:=h.k1
 have hl:=a8e h
 have ej:c29 (wdC c) [32]=some (bdC c):=by
  unfold c29
  exact o5 (by simp only [wC,xN];exact ⟨by simp [wdC];omega,by show (bdC c).length≤_;omega⟩)
 unfold e6i
 simp only [b3p,xY,a8u]
 rw [o5 (x8.2 (by omega)),o5 (p8.2 (by omega)),b0j hk0 hk1]
 simp only
 rw [b9g c h.num _ _ _ (by simp;omega),xY]
 show (c29 (wdC c) [32]).bind _=_
 rw [ej,xY,o5 (a1c.2 (by simp;omega))]
 rfl
def b1k (s:Str):Str:=bif decide (s.drop (s.length - 1)=[10]) then s.take (s.length - 1) else s
theorem c7n {s:Str} (h:s.length≤1000000000000):f3l s [10]=some (decide (s.drop (s.length - 1)=[10])):=by
 unfold f3l
 cases s with
 | nil=>rfl
 | cons a r =>
  have e:decide ((([10]:Str).length:Int)≤((a::r).length:Int))=true:=wR (by simp only [x5,wK];omega)
  rw [e,vN]
  rw [o5 (x8.2 (by simp only [x5,wK] at h ⊢;omega)),o5 (a1u.2 (by simp only [x5,wK];omega))]
  have e2:(((a::r).length:Int) - (([10]:Str).length:Int)).toNat=(a::r).length - 1:=by simp only [x5,wK];omega
  rw [e2];rfl
theorem c7g {s:Str} (h:s.length≤1000000000000):f3k s [10]=some (b1k s):=by
 unfold f3k f6n b1k
 rw [c7n h]
 simp only [xY]
 cases hd:decide (s.drop (s.length - 1)=[10]) with
 | false=>rfl
 | true =>
  have hs:1≤s.length:=by
   cases s with
   | nil=>simp at hd
   | cons a r=>simp
  simp only [vN]
  rw [o5 (x8.2 (by simp only [x5,wK];omega)),o5 (a1u.2 (by simp only [x5,wK];omega))]
  have e2:((s.length:Int) - (([10]:Str).length:Int)).toNat=s.length - 1:=by simp only [x5,wK];omega
  rw [e2];rfl
theorem d8g {b:Str}:b1k (b++[10])=b:=by
 have e:(b++[10]:Str).length - 1=b.length:=by simp
 unfold b1k
 rw [e,List.drop_left,List.take_left]
 rfl
def d4h:List (Str×List Fd)→Int→Str→Option Int
 | [],_,_=>none
 | k::r,i,w=>bif decide (k.1=w) then some i else d4h r (i+1) w
theorem c8x (f:a3v) (w:Str) (r:List Str):f3j f (w::r)=some (decide (f.tF=w)):=by
 unfold f3j
 exact o5 (p8.2 (by simp only [x5];omega))
theorem b6j (w:Str) (q:List Str):∀(ks:List (Str×List Fd)) (i:Int),
  forL (f6r (w::q)) (ks.map fun k=>⟨k.1,k.2.map Fd.g⟩) i ()=some (match d4h ks i w with|some j=>.ex j|none=>.nx ())
 | [],_=>rfl
 | k::r,i=>by
  simp only [wW,forL,f6r,c8x,xY,d4h]
  cases decide (k.1=w) with
  | true=>rfl
  | false=>exact b6j w q r (i+1)
theorem c47 (w:Str) (q:List Str):e6g b2u (w::q)=some ((d4h a4z 0 w).getD (-1)):=by
 unfold e6g b2u
 rw [b6j]
 cases d4h a4z 0 w<;>rfl
theorem d4g {k:Int} (h0:1≤k) (h1:k≤11):d4h a4z 0 (kindOf k).1=some (k - 1):=by
 rcases kinds h0 h1 with h|h|h|h|h|h|h|h|h|h|h<;>subst h<;>rfl
theorem d3a (c d:d9) (f:Fd) (hn:c5u c) (ws:List Str) (k:Int) (h0:0≤k) (hk:k+1<ws.length) (hw:ws.getD (k+1).toNat default=f.get c):d2e ws k f.g d=some (.nx (f.cp c d)):=by
 have hb:inb (k+1) ws.length=true:=p8.2 (by omega)
 have i1:=b59 (x8.1 hn.1).1 (x8.1 hn.1).2
 have i2:=b59 (x8.1 hn.2.1).1 (x8.1 hn.2.1).2
 have i3:=b59 (x8.1 hn.2.2).1 (x8.1 hn.2.2).2
 unfold d2e
 rw [hw]
 simp only [o5 hb]
 cases f<;>simp [Fd.g,Fd.get,Fd.cp,d6g,d6h,d6d,d6e,d6f,i1,i2,i3]
theorem b92 (c:d9) (hn:c5u c) (w:Str):∀(fs pre:List Fd) (d:d9) (k:Int),k=pre.length →
  forL (d2e (w::(pre++fs).map (Fd.get c))) (fs.map Fd.g) k d=some (.nx (fs.foldl (Fd.cp c) d))
 | [],_,_,_,_=>rfl
 | f::r,pre,d,k,hk=>by
  subst hk
  have h1:d2e (w::(pre++f::r).map (Fd.get c)) pre.length f.g d=some (.nx (f.cp c d)):=by
   refine d3a c d f hn _ _ (by omega) (by simp;omega) ?_
   have e:((pre.length:Int)+1).toNat=pre.length+1:=by omega
   rw [e,List.getD_cons_succ,zE,xR]
   simp
  simp only [wW,forL]
  rw [h1]
  simp only [xY,Fl.elim]
  have ih:=b92 c hn w r (pre++[f]) (f.cp c d) ((pre.length:Int)+1) (by simp)
  simp only [List.append_assoc,wA,wH] at ih
  exact ih
theorem c8w {c:d9} (h:VC c) (hv:a1n c=true) {t:Str} (hl:t.length≤1000) (ht:b1k t=bdC c):F_p t=some (c,decide (lnC c=t)):=by
 have hk0:=h.k0
 have hk1:=h.k1
 have hws:spl 32 (bdC c)=wdC c:=b7d _ _ fun w hw x hx=>((c7c h w hw).2 x hx).1
 have es:d2o (bdC c) [32]=some (wdC c):=by
  have:=a8e h
  unfold d2o
  simp only [wR (show (bdC c).length<4294967281 by omega),vN,hws]
 have h3:=b0c c.Kind
 unfold F_p
 rw [c7g (by omega),ht]
 simp only [xY]
 rw [es]
 simp only [xY,b3p]
 have ei:e6g b2u (wdC c)=some (c.Kind - 1):=by
  unfold wdC
  rw [c47,d4g hk0 hk1];rfl
 rw [ei]
 simp only [xY]
 rw [wE (by omega),vL,a8u,o5 (p8.2 (by omega)),b0j hk0 hk1]
 simp only [wL]
 rw [o5 (x8.2 (by omega))]
 have e1:decide (((wdC c).length:Int)=1+((kindOf c.Kind).2.length:Int))=true:=wR (by simp [wdC];omega)
 rw [e1,wY,vL,o5 (x8.2 (by omega)),o5 (p8.2 (by omega))]
 have e2:c.Kind - 1+1=c.Kind:=by omega
 rw [e2]
 have hr:=b92 c h.num (kindOf c.Kind).1 (kindOf c.Kind).2 [] (b73 c.Kind) 0 rfl
 rw [wH,h.cp] at hr
 show (forL (d2e (wdC c)) _ _ _).bind _=_
 unfold wdC
 unfold b73 at hr
 rw [hr]
 simp only [xY,Fl.elim,b1f,hv,vN,c36 h]
structure Sc (x:List d9):Prop where
 v:∀c∈x,a1n c=true
 n:x.length≤60
theorem Sc.vc {x:List d9} (h:Sc x):∀c∈x,VC c:=fun c hc=>a7o (h.v c hc)
def txC (x:List d9):Str:=x.flatMap lnC
theorem d6n:∀(x:List d9),(∀c∈x,VC c)→(txC x).length≤89*x.length
 | [],_=>by simp [txC]
 | c::r,h=>by
  have ih:=d6n r fun c hc=>h c (xB _ hc)
  have h1:=a8e (h c (by simp))
  have e:txC (c::r)=bdC c++[10]++txC r:=by simp [txC,a7y]
  rw [e]
  simp only [xI,x5,wK]
  omega
theorem b2z:∀(xs acc:List Str) (k:Int),acc.length+xs.length≤1000000000000→forL f6k xs k acc=some (.nx (acc++xs))
 | [],acc,k,_=>by simp [forL]
 | x::r,acc,k,h=>by
  simp only [x5] at h
  simp only [forL,f6k]
  rw [o5 (a0z.2 (by simp only [x5,wK];omega))]
  simp only [xY,Fl.elim]
  rw [b2z r _ _ (by simp;omega)]
  simp
theorem b6r {s:Str} (h:(a1g s).length≤1000000000000):f4b s=some (a1g s):=by
 unfold f4b f7p
 rw [b2z _ _ _ (by simp;omega)]
 rfl
theorem d2j (s:Str):(b1k s).length≤s.length:=by
 unfold b1k
 cases decide (s.drop (s.length - 1)=[10])<;>simp
theorem d3g {c:d9} (hv:a1n c=true):F_p (lnC c)=some (c,true):=by
 have h:=a7o hv
 have hl:=a8e h
 rw [c8w h hv (t:=lnC c) (by rw [a7y];simp;omega) (by rw [a7y];exact d8g)]
 simp
theorem b6v:∀(x:List d9) (k:Int),(∀c∈x,a1n c=true)→forL e6f x k ()=some (.nx ())
 | [],_,_=>rfl
 | c::r,k,h=>by
  simp only [forL,e6f,f3x,b1f,h c (by simp),xY,wY,vL,Fl.elim]
  exact b6v r (k+1) fun c hc=>h c (xB _ hc)
theorem d5l {x:List d9} (h:Sc x):d6c x=some 0:=by
 have hn:=h.n
 unfold d6c f3v f3w
 rw [wE (by omega),vL,b6v x 0 h.v]
 rfl
theorem b4x:∀(x:List d9) (k:Int) (acc:Str),(∀c∈x,VC c)→acc.length+89*x.length≤1000000→foldL f7n x k acc=some (acc++txC x)
 | [],_,acc,_,_=>by simp [foldL,txC]
 | c::r,k,acc,h,hl=>by
  simp only [x5] at hl
  have h1:=a8e (h c (by simp))
  have hb:bws acc (lnC c)=some (acc++lnC c):=by
   unfold bws
   exact o5 (a0z.2 (by rw [a7y];simp;omega))
  simp only [foldL,f7n,c36 (h c (by simp)),xY,hb]
  rw [b4x r _ _ (fun c hc=>h c (xB _ hc)) (by rw [a7y];simp;omega)]
  simp [txC]
theorem d1x {x:List d9} (h:Sc x):e4z x=some (txC x,0):=by
 have hn:=h.n
 unfold e4z
 rw [d5l h,xY]
 simp only [decide_true,wY,vL]
 rw [b4x x 0 [] h.vc (by simp;omega)]
 simp [e5u]
theorem b8w (b:List d9):∀(xs pre:List d9) (k:Int),b=pre++xs→k=pre.length→forL (f6s b) xs k ()=some (.nx ())
 | [],_,_,_,_=>rfl
 | x::r,pre,k,hb,hk=>by
  subst hk
  have e:b.getD ((pre.length:Int)).toNat default=x:=by subst hb;simp [zE]
  have hi:inb (pre.length:Int) b.length=true:=p8.2 (by subst hb;simp;omega)
  simp only [forL,f6s]
  rw [o5 hi,e]
  simp only [decide_true,w5,wY,vL,xY,Fl.elim]
  exact b8w b r (pre++[x]) _ (by simp [hb]) (by simp)
theorem e3t (x:List d9):f3m x x=some true:=by
 unfold f3m
 rw [wR rfl,wY,vL,b8w x x [] 0 rfl rfl]
 rfl
def TO (t:a2i):Prop:=0≤t.at_∧(t.L.length:Int)≤9223372036854775807
theorem a0i {n:Int} (h0:-1000000000000≤n) (h:n≤1000000000000):a0j n=true:=x8.2 ⟨by omega,by omega⟩
theorem a7j {t:a2i} {n:Int} (h:TO t) (hn:0<n):Ok (F_1 t n) fun y=>0≤y.1∧y.1<n∧TO y.2:=by
 unfold F_1
 refine Ok.ite (fun c=>Ok.ret ⟨vK 0,hn,h⟩) fun c=>?_
 have c':t.at_<t.L.length:=by simpa using c
 have h1:=h.1;have h2:=h.2
 refine Ok.chk (p8.2 ⟨h.1,c'⟩) (Ok.chk (x8.2 ⟨by omega,by omega⟩) (Ok.chk (b8a.2 ⟨Int.emod_nonneg _ (by decide),hn⟩) (Ok.ret ⟨Int.emod_nonneg _ (by omega),Int.emod_lt_of_pos _ hn,?_,h2⟩)))
 show 0≤t.at_+1
 omega
theorem f2g {t:a2i} {a b:Int} (h:TO t) (h1:-100000≤a) (h2:a≤b) (h3:b≤100000):Ok (f3o t a b) fun y=>a≤y.1∧y.1≤b∧TO y.2:=by
 unfold f3o
 refine Ok.chk (a0i (by omega) (by omega)) (Ok.chk (a0i (by omega) (by omega)) (Ok.bind (a7j h (by omega)) fun y hy=>Ok.chk (a0i (by omega) (by omega)) (Ok.ret ⟨?_,?_,hy.2.2⟩)))
 ·show a≤a+y.1;omega
 ·show a+y.1≤b;omega
structure MC0 (ns:List Str) (c:d9):Prop where
 k:1≤c.Kind∧c.Kind≤11
 w:c.Kind=1∨c.Kind=2→c.Name∈ns∧c.Other=[]∧c.Time=0∧c.A=0∧c.B=0
 j:c.Kind=3∨c.Kind=4→c.Name∈ns∧c.Other∈ns∧c.A=0∧c.B=0
 g:c.Kind=5∨c.Kind=6→c.Name∈ns∧c.Other=[]∧c.B=0
 o:c.Kind=7→c.Name=[]∧c.Other=[]
 p:c.Kind=8∨c.Kind=9→c.Name=[]∧c.Other=[]∧c.B<3
 q:c.Kind=10→c.Name=[]∧c.Other=[]∧c.B=0
 s:c.Kind=11→c.Name∈ns∧c.Other=[]∧c.Time=0∧c.B=0
 t:0≤c.Time∧c.Time<100
 a:0≤c.A∧c.A<3
 b:0≤c.B∧c.B<200
theorem b6q {t:a2i} {ns:List Str} (ht:TO t) (h1:1≤ns.length) (h2:ns.length≤100):Ok (e6w t ns) fun y=>MC0 ns y.1∧TO y.2:=by
 have hm:∀{i:Int},0≤i→i<ns.length→ns.getD i.toNat default∈ns:=fun {i} h0 h1=>by
  have:i.toNat<ns.length:=by omega
  rw [zE,zJ this]
  exact x6 this
 unfold e6w
 refine Ok.bind (a7j ht (by omega)) fun y2 e2=>Ok.chk (p8.2 ⟨e2.1,e2.2.1⟩) (Ok.bind (a7j e2.2.2 (by omega)) fun y4 e4=>Ok.bind (f2g e4.2.2 (by omega) (by omega) (by omega)) fun y6 e6=>?_)
 have n2:=hm e2.1 e2.2.1
 obtain ⟨t0,t1,ht4⟩:=e4
 obtain ⟨k0,k1,ht6⟩:=e6
 refine Ok.jn (P:=fun j=>j=true↔y6.1=1∨y6.1=2) (Ok.ite (fun c=>Ok.ret (by simp at c;simp [c])) fun c=>Ok.ret (by simp at c;simp [c])) fun j7 e7=>Ok.ite (fun c=>?_) fun c=>?_
 ·have hk:=e7.1 c
  exact Ok.ret ⟨⟨⟨k0,k1⟩,fun _=>⟨n2,rfl,rfl,rfl,rfl⟩,fun h=>by simp only at h;omega,fun h=>by simp only at h;omega,fun h=>by simp only at h;omega,fun h=>by simp only at h;omega,fun h=>by simp only at h;omega,fun h=>by simp only at h;omega,by simp,by simp,by simp⟩,ht6⟩
 have hk1:¬(y6.1=1∨y6.1=2):=fun h=>by rw [e7.2 h] at c;cases c
 refine Ok.jn (P:=fun j=>j=true↔y6.1=3∨y6.1=4) (Ok.ite (fun c=>Ok.ret (by simp at c;simp [c])) fun c=>Ok.ret (by simp at c;simp [c])) fun j8 e8=>Ok.ite (fun c=>?_) fun c=>?_
 ·have hk:=e8.1 c
  refine Ok.bind (a7j ht6 (by omega)) fun y10 e10=>Ok.chk (p8.2 ⟨e10.1,e10.2.1⟩) (Ok.ret ⟨⟨⟨k0,k1⟩,fun h=>by simp only at h;omega,fun _=>⟨n2,hm e10.1 e10.2.1,rfl,rfl⟩,fun h=>by simp only at h;omega,fun h=>by simp only at h;omega,fun h=>by simp only at h;omega,fun h=>by simp only at h;omega,fun h=>by simp only at h;omega,by simp only;omega,by simp,by simp⟩,e10.2.2⟩)
 have hk2:¬(y6.1=3∨y6.1=4):=fun h=>by rw [e8.2 h] at c;cases c
 refine Ok.jn (P:=fun j=>j=true↔y6.1=5∨y6.1=6) (Ok.ite (fun c=>Ok.ret (by simp at c;simp [c])) fun c=>Ok.ret (by simp at c;simp [c])) fun j11 e11=>Ok.ite (fun c=>?_) fun c=>?_
 ·have hk:=e11.1 c
  refine Ok.bind (a7j ht6 (by omega)) fun y13 e13=>Ok.ret ⟨⟨⟨k0,k1⟩,fun h=>by simp only at h;omega,fun h=>by simp only at h;omega,fun _=>⟨n2,rfl,rfl⟩,fun h=>by simp only at h;omega,fun h=>by simp only at h;omega,fun h=>by simp only at h;omega,fun h=>by simp only at h;omega,by simp only;omega,by simp only;omega,by simp⟩,e13.2.2⟩
 have hk3:¬(y6.1=5∨y6.1=6):=fun h=>by rw [e11.2 h] at c;cases c
 refine Ok.ite (fun c=>?_) fun c=>?_
 ·have hk:y6.1=7:=by simpa using c
  refine Ok.bind (a7j ht6 (by omega)) fun y16 e16=>Ok.bind (a7j e16.2.2 (by omega)) fun y17 e17=>Ok.chk (a0i (by omega) (by omega)) (Ok.ret ⟨⟨⟨k0,k1⟩,fun h=>by simp only at h;omega,fun h=>by simp only at h;omega,fun h=>by simp only at h;omega,fun _=>⟨rfl,rfl⟩,fun h=>by simp only at h;omega,fun h=>by simp only at h;omega,fun h=>by simp only at h;omega,by simp only;omega,by simp only;omega,by simp only;omega⟩,e17.2.2⟩)
 have hk4:y6.1≠7:=by simpa using c
 refine Ok.ite (fun c=>?_) fun c=>?_
 ·have hk:y6.1=8:=by simpa using c
  refine Ok.bind (a7j ht6 (by omega)) fun y16 e16=>Ok.bind (a7j e16.2.2 (by omega)) fun y17 e17=>Ok.ret ⟨⟨⟨k0,k1⟩,fun h=>by simp only at h;omega,fun h=>by simp only at h;omega,fun h=>by simp only at h;omega,fun h=>by simp only at h;omega,fun _=>⟨rfl,rfl,e17.2.1⟩,fun h=>by simp only at h;omega,fun h=>by simp only at h;omega,by simp only;omega,by simp only;omega,by simp only;omega⟩,e17.2.2⟩
 have hk5:y6.1≠8:=by simpa using c
 refine Ok.ite (fun c=>?_) fun c=>?_
 ·have hk:y6.1=9:=by simpa using c
  refine Ok.bind (a7j ht6 (by omega)) fun y16 e16=>Ok.bind (a7j e16.2.2 (by omega)) fun y17 e17=>Ok.ret ⟨⟨⟨k0,k1⟩,fun h=>by simp only at h;omega,fun h=>by simp only at h;omega,fun h=>by simp only at h;omega,fun h=>by simp only at h;omega,fun _=>⟨rfl,rfl,e17.2.1⟩,fun h=>by simp only at h;omega,fun h=>by simp only at h;omega,by simp only;omega,by simp only;omega,by simp only;omega⟩,e17.2.2⟩
 have hk6:y6.1≠9:=by simpa using c
 refine Ok.ite (fun c=>?_) fun c=>?_
 ·have hk:y6.1=10:=by simpa using c
  refine Ok.bind (a7j ht6 (by omega)) fun y16 e16=>Ok.ret ⟨⟨⟨k0,k1⟩,fun h=>by simp only at h;omega,fun h=>by simp only at h;omega,fun h=>by simp only at h;omega,fun h=>by simp only at h;omega,fun h=>by simp only at h;omega,fun _=>⟨rfl,rfl,rfl⟩,fun h=>by simp only at h;omega,by simp only;omega,by simp only;omega,by simp⟩,e16.2.2⟩
 have hk7:y6.1≠10:=by simpa using c
 refine Ok.bind (a7j ht6 (by omega)) fun y16 e16=>Ok.ret ⟨⟨by simp,fun h=>by simp only at h;omega,fun h=>by simp only at h;omega,fun h=>by simp only at h;omega,fun h=>by simp only at h;omega,fun h=>by simp only at h;omega,fun h=>by simp only at h;omega,fun _=>⟨n2,rfl,rfl,rfl⟩,by simp,by simp only;omega,by simp⟩,e16.2.2⟩
abbrev g2n:Str:=[97,110,110]
abbrev d9z:Str:=[111,112,115]
abbrev g2m:Str:=[98,111,98]
abbrev e00:Str:=[100,101,118]
abbrev nm4:List Str:=[g2n,d9z,g2m,e00]
abbrev four:List d9:=[⟨1,g2n,[],0,0,0⟩,⟨2,d9z,[],0,0,0⟩,⟨1,g2m,[],0,0,0⟩,⟨2,e00,[],0,0,0⟩]
structure SC (c:d9):Prop where
 m:MC0 nm4 c
 k:3≤c.Kind
 j:c.Kind=3∨c.Kind=4→(c.Other=d9z∨c.Other=e00)∧c.Name≠c.Other
 o:c.Kind=7→c.Time<c.B
 p:c.Kind=9→c.A≠c.B
theorem f0h {i:Int} (h0:0≤i) (h1:i<2):([d9z,e00]:List Str).getD i.toNat default=d9z∨([d9z,e00]:List Str).getD i.toNat default=e00:=by
 have:i=0∨i=1:=by omega
 rcases this with rfl|rfl
 ·exact .inl rfl
 ·exact .inr rfl
theorem c7y {t:a2i} (ht:TO t):Ok (F_e t) fun y=>(∃r,y.1=four++r∧r.length≤13∧∀c∈r,SC c)∧TO y.2:=by
 unfold F_e
 refine Ok.bind (a7j ht (by omega)) fun y e=>Ok.bind (P:=fun z=>(∃r,z.1=four++r∧r.length≤13∧∀c∈r,SC c)∧TO z.2) ?_ fun r hr=>Ok.ret hr
 refine Ok.loop (fun s=>0≤s.1∧(∃r,s.2.1=four++r∧(r.length:Int)+s.1≤13∧∀c∈r,SC c)∧TO s.2.2) (fun s=>s.1.toNat) (fun s hs=>?_) _ ⟨e.1,⟨[],rfl,by simp only [wK];omega,by simp⟩,e.2.2⟩
 obtain ⟨k,l,t⟩:=s
 obtain ⟨h0,⟨r,h1,h2,h3⟩,h4⟩:=hs
 simp only at h0 h1 h2 h3 h4
 subst h1
 unfold g2h
 refine Ok.ite (fun c=>?_) fun c=>Ok.ret ⟨⟨r,rfl,by omega,h3⟩,h4⟩
 have hk:0<k:=by simpa using c
 refine Ok.jn (P:=fun j=>(∃r',j.1=four++r'∧(r'.length:Int)≤r.length+1∧∀c∈r',SC c)∧TO j.2) ?_ fun j hj=>?_
 ·refine Ok.bind (b6q h4 (by simp) (by simp)) fun y e=>?_
  obtain ⟨m,ht1⟩:=e
  refine Ok.jn (P:=fun o=>o.elim (fun j=>SC j.1∧TO j.2) fun t=>TO t) ?_ fun o ho=>?_
  ·refine Ok.jn (P:=fun j=>j=true↔y.1.Kind=1∨y.1.Kind=2) (Ok.ite (fun c=>Ok.ret (by simp at c;simp [c])) fun c=>Ok.ret (by simp at c;simp [c])) fun j e7=>Ok.ite (fun c=>Ok.ret ht1) fun c=>?_
   have hk1:¬(y.1.Kind=1∨y.1.Kind=2):=fun h=>by rw [e7.2 h] at c;cases c
   have mk:=m.k
   have hk3:3≤y.1.Kind:=by omega
   refine Ok.jn (P:=fun j=>j=true↔y.1.Kind=3∨y.1.Kind=4) (Ok.ite (fun c=>Ok.ret (by simp at c;simp [c])) fun c=>Ok.ret (by simp at c;simp [c])) fun j e8=>Ok.ite (fun c=>?_) fun c=>?_
   ·have hk2:=e8.1 c
    refine Ok.bind (a7j ht1 (by omega)) fun z ez=>Ok.chk (p8.2 ⟨ez.1,by simpa using ez.2.1⟩) (Ok.ite (fun _=>Ok.ret ez.2.2) fun hne=>Ok.ret ⟨?_,ez.2.2⟩)
    have mj:=m.j hk2
    have hg:=f0h ez.1 ez.2.1
    have hin:([d9z,e00]:List Str).getD z.1.toNat default∈nm4:=by rcases hg with h|h<;>rw [h]<;>simp
    refine ⟨⟨m.k,fun h=>absurd h hk1,fun _=>⟨mj.1,hin,mj.2.2.1,mj.2.2.2⟩,fun h=>by simp only at h;omega,fun h=>by simp only at h;omega,fun h=>by simp only at h;omega,fun h=>by simp only at h;omega,fun h=>by simp only at h;omega,m.t,m.a,m.b⟩,hk3,fun _=>⟨hg,of_decide_eq_false hne⟩,fun h=>by simp only at h;omega,fun h=>by simp only at h;omega⟩
   ·have hk4:¬(y.1.Kind=3∨y.1.Kind=4):=fun h=>by rw [e8.2 h] at c;cases c
    refine Ok.ite (fun c=>?_) fun c=>Ok.ite (fun c9=>Ok.ite (fun _=>Ok.ret ht1) fun hne=>Ok.ret ⟨⟨m,hk3,fun h=>absurd h hk4,fun h=>by have h':y.1.Kind=7:=h;have:y.1.Kind=9:=of_decide_eq_true c9;omega,fun _=>of_decide_eq_false hne⟩,ht1⟩) fun c9=>Ok.ret ⟨⟨m,hk3,fun h=>absurd h hk4,fun h=>absurd h (of_decide_eq_false c),fun h=>absurd h (of_decide_eq_false c9)⟩,ht1⟩
    have h7:y.1.Kind=7:=by simpa using c
    have mt:=m.t
    refine Ok.chk (a0i (by omega) (by omega)) (Ok.bind (a7j ht1 (by omega)) fun z ez=>Ok.chk (a0i (by omega) (by omega)) (Ok.ret ⟨?_,ez.2.2⟩))
    have mo:=m.o h7
    exact ⟨⟨m.k,fun h=>by simp only at h;omega,fun h=>by simp only at h;omega,fun h=>by simp only at h;omega,fun _=>mo,fun h=>by simp only at h;omega,fun h=>by simp only at h;omega,fun h=>by simp only at h;omega,m.t,m.a,by simp only;omega⟩,hk3,fun h=>absurd h hk4,fun _=>by simp only;omega,fun h=>by simp only at h;omega⟩
  ·cases o with
   | nx j =>
    refine Ok.chk (a0z.2 (by simp only [xI,x5,wK];omega)) (Ok.ret ⟨⟨r++[j.1],by simp,by simp,fun c hc=>?_⟩,ho.2⟩)
    rcases wJ.1 hc with hc|hc
    ·exact h3 c hc
    ·simp at hc;subst hc;exact ho.1
   | ex t=>exact Ok.ret ⟨⟨r,rfl,by omega,h3⟩,ho⟩
 ·obtain ⟨⟨r',g1,g2,g3⟩,g4⟩:=hj
  exact Ok.chk (a0i (by simp only;omega) (by simp only;omega)) (Ok.ret ⟨⟨by simp only;omega,⟨r',g1,by simp only;omega,g3⟩,g4⟩,by simp only;omega⟩)
def byT (l:List d9):Prop:=l.Pairwise fun a b=>a.Time≤b.Time
def atT (t:Int) (l:List d9):List d9:=l.filter fun c=>decide (c.Time=t)
structure Srt (d r:List d9):Prop where
 s:byT r
 f:∀t,atT t r=atT t d
 p:r.Perm d
theorem a9i (t:Int) (a b:List d9):atT t (a++b)=atT t a++atT t b:=List.filter_append ..
theorem b3u {c:d9} {l:List d9}:c∈atT c.Time l↔c∈l:=by simp [atT]
theorem d7q:∀(r r':List d9),byT r→byT r'→(∀t,atT t r=atT t r')→r=r'
 | [],[],_,_,_=>rfl
 | [],b::q,_,_,h=>by have:=h b.Time;simp [atT] at this
 | a::q,[],_,_,h=>by have:=h a.Time;simp [atT] at this
 | a::q,b::q',h1,h2,h=>by
  have ha:a∈b::q':=b3u.1 (h a.Time▸b3u.2 (by simp))
  have hb:b∈a::q:=b3u.1 (h b.Time▸b3u.2 (by simp))
  have s1:=List.pairwise_cons.1 h1
  have s2:=List.pairwise_cons.1 h2
  have e1:b.Time≤a.Time:=by
   rcases wV.1 ha with e|e
   ·rw [e];exact vK _
   ·exact s2.1 a e
  have e2:a.Time≤b.Time:=by
   rcases wV.1 hb with e|e
   ·rw [e];exact vK _
   ·exact s1.1 b e
  have et:a.Time=b.Time:=Int.le_antisymm e2 e1
  have h3:=h a.Time
  simp only [atT,List.filter_cons,decide_true,if_true,et.symm,wR et.symm] at h3
  simp only [et,decide_true,if_true,wN] at h3
  obtain ⟨rfl,h4⟩:=h3
  have ih:=d7q q q' s1.2 s2.2 fun t=>by
   by_cases ht:a.Time=t
   ·subst ht;exact h4
   ·have:=h t
    simp only [atT,List.filter_cons,wE ht] at this
    simp at this
    exact this
  rw [ih]
theorem Srt.uniq {d d' r r':List d9} (h:Srt d r) (h':Srt d' r') (e:∀t,atT t d=atT t d'):r=r':=d7q r r' h.s h'.s fun t=>by rw [h.f,h'.f,e]
theorem b76 (b c:d9) (r:List d9):∀q:List d9,((q++b::c::r).set (q.length+1) b).set q.length c=q++c::b::r
 | []=>rfl
 | a::q=>by
  have:=b76 b c r q
  simpa using this
def tOK (c:d9):Prop:=0≤c.Time∧c.Time≤1000000000
theorem Srt.ins {d p p1 p2:List d9} {c:d9} (h:Srt d p) (e:p1++p2=p) (h1:∀x∈p1,x.Time≤c.Time) (h2:∀x∈p2,c.Time<x.Time):Srt (d++[c]) (p1++c::p2):=by
 subst e
 have hs:=List.pairwise_append.1 h.s
 refine ⟨List.pairwise_append.2 ⟨hs.1,List.pairwise_cons.2 ⟨fun x hx=>vF (h2 x hx),hs.2.1⟩,fun a ha b hb=>?_⟩,fun t=>?_,?_⟩
 ·rcases wV.1 hb with rfl|hb
  ·exact h1 a ha
  ·exact hs.2.2 a ha b hb
 ·have hf:=h.f t
  rw [a9i] at hf
  rw [a9i,a9i,←hf]
  by_cases ht:c.Time=t
  ·have e:atT t p2=[]:=by
    unfold atT
    rw [List.filter_eq_nil_iff]
    intro x hx
    have:=h2 x hx
    simp;omega
   have e2:atT t (c::p2)=c::atT t p2:=by simp [atT,ht]
   have e3:atT t [c]=[c]:=by simp [atT,ht]
   rw [e2,e3,e];simp
  ·have e2:atT t (c::p2)=atT t p2:=by simp [atT,ht]
   have e3:atT t [c]=[]:=by simp [atT,ht]
   rw [e2,e3];simp
 ·exact (List.perm_middle).trans ((List.Perm.cons c h.p).trans (List.perm_append_singleton c d).symm)
theorem Le.loopL {σ ρ:Type} {f g:σ→Option (Fl σ ρ)} {s:σ} (h:∀s,Le (f s) (g s)):Le (Go.Ab.loop f s) (Go.Ab.loop g s):=fun r hr=>by
 obtain ⟨n,hn⟩:=a3s.1 hr
 exact a3s.2 ⟨n,Le.iter h n s r hn⟩
theorem Le.up {α:Type} {f:Nat→Option α} (h:∀n,Le (f n) (f (n+1))) {n m:Nat} (hm:n≤m):Le (f n) (f m):=by
 induction hm with
 | refl=>exact Le.refl
 | step _ ih=>exact fun r hr=>h _ r (ih r hr)
theorem Ok.lim {α:Type} {f:Nat→Option α} {Q:α→Prop} (h:∀n,Le (f n) (f (n+1))) (n:Nat) (hn:Ok (f n) Q):Ok (Go.Ab.lim f) Q:=by
 obtain ⟨y,e,hy⟩:=hn
 exact ⟨y,d75 ⟨n,fun m hm=>Le.up h hm y e⟩,hy⟩
theorem c4t {t:Int} {l:List d9} (h:∀x∈l,x.Time≠t):atT t l=[]:=by
 unfold atT
 rw [List.filter_eq_nil_iff]
 intro x hx;simp [h x hx]
theorem d5y {u v:List d9} (h:∀x∈u,∀y∈v,y.Time<x.Time) (t:Int):atT t u++atT t v=atT t v++atT t u:=by
 by_cases c:∃x∈u,x.Time=t
 ·obtain ⟨x,hx,e⟩:=c
  rw [c4t (l:=v) fun y hy=>by have:=h x hx y hy;omega];simp
 ·rw [c4t (l:=u) fun x hx e=>c ⟨x,hx,e⟩];simp
theorem a7b {a b:List d9}:byT (a++b)↔byT a∧byT b∧∀x∈a,∀y∈b,x.Time≤y.Time:=List.pairwise_append
theorem Srt.cat {A u v B L R:List d9} (hL:Srt (A++v) L) (hR:Srt (u++B) R) (h1:byT (A++u)) (h2:byT (v++B)) (h3:∀x∈u,∀y∈v,y.Time<x.Time) (h4:∀x∈A,∀y∈B,x.Time≤y.Time):Srt ((A++u)++(v++B)) (L++R):=by
 refine ⟨a7b.2 ⟨hL.s,hR.s,fun x hx y hy=>?_⟩,fun t=>?_,?_⟩
 ·have hx:=hL.p.mem_iff.1 hx
  have hy:=hR.p.mem_iff.1 hy
  rcases wJ.1 hx with hx|hx<;>rcases wJ.1 hy with hy|hy
  ·exact (a7b.1 h1).2.2 x hx y hy
  ·exact h4 x hx y hy
  ·exact vF (h3 y hy x hx)
  ·exact (a7b.1 h2).2.2 x hx y hy
 ·rw [a9i,hL.f,hR.f]
  simp only [a9i]
  rw [List.append_assoc,List.append_assoc,←List.append_assoc (atT t v),←d5y h3,List.append_assoc]
 ·refine (hL.p.append hR.p).trans ?_
  rw [List.append_assoc,List.append_assoc,←List.append_assoc v,←List.append_assoc u]
  exact List.Perm.append_left A ((List.perm_append_comm).append_right B)
theorem Srt.id {d:List d9} (h:byT d):Srt d d:=⟨h,fun _=>rfl,List.Perm.refl _⟩
theorem Srt.swap {u v:List d9} (h1:byT u) (h2:byT v) (h:∀x∈u,∀y∈v,y.Time<x.Time):Srt (u++v) (v++u):=by
 have:=Srt.cat (A:=[]) (B:=[]) (u:=u) (v:=v) (Srt.id (by simpa using h2)) (Srt.id (by simpa using h1)) (by simpa using h1) (by simpa using h2) h (by simp)
 simpa using this
section blocks
variable {α:Type} [Inhabited α]
theorem get_at (P:List α) (x:α) (S:List α):(P++x::S).getD P.length default=x:=by simp [zE]
theorem d6p (P:List α) (x y:α) (S:List α):(P++x::S).set P.length y=P++y::S:=by simp
theorem e76 (P M S:List α) (x y:α):((P++x::(M++y::S)).set P.length y).set (P.length+1+M.length) x=P++y::(M++x::S):=by
 rw [d6p]
 have:=d6p (P++y::M) y x S
 simp only [xI,x5,List.append_assoc,wA] at this
 rw [show P.length+1+M.length=P.length+(M.length+1) by omega]
 exact this
theorem g38 (P M S:List α) (x y:α):(P++x::(M++y::S)).getD (P.length+1+M.length) default=y:=by
 have:=get_at (P++x::M) y S
 simp only [xI,x5,List.append_assoc,wA] at this
 rw [show P.length+1+M.length=P.length+(M.length+1) by omega]
 exact this
end blocks
def nxt (d:List d9) (i:Int):Int:=(d.getD i.toNat default).Time
theorem b1s {P Q S:List d9} {i:Int} (h0:(P.length:Int)≤i) (h2:i<P.length+Q.length):∃h:i.toNat - P.length<Q.length,nxt (P++(Q++S)) i=(Q[i.toNat - P.length]).Time:=by
 have h:i.toNat - P.length<Q.length:=by omega
 refine ⟨h,?_⟩
 unfold nxt
 rw [zE,zD (by omega),zH h,zJ h,xX]
theorem b8e {P Q S:List d9} (h:byT Q) {i j:Int} (h0:(P.length:Int)≤i) (h1:i≤j) (h2:j<P.length+Q.length):nxt (P++(Q++S)) i≤nxt (P++(Q++S)) j:=by
 obtain ⟨a,e⟩:=b1s (P:=P) (Q:=Q) (S:=S) h0 (show i<P.length+Q.length by omega)
 obtain ⟨b,e'⟩:=b1s (P:=P) (Q:=Q) (S:=S) (show (P.length:Int)≤j by omega) h2
 rw [e,e']
 by_cases c:i.toNat - P.length=j.toNat - P.length
 ·simp only [c];exact vK _
 ·exact List.pairwise_iff_getElem.1 h _ _ a b (by omega)
theorem g04 {P X Y S:List d9} (hX:byT X) (hY:byT Y) {a m b mid st e:Int} (ha:a=P.length) (hm:m=a+X.length) (hb:b=m+Y.length) (hmid:mid=(a+b) / 2)
  (he:e=mid+m - st) (s0:a≤st) (s1:st≤m) (e0:m≤e) (e1:e≤b)
  (f1:a<st→e<b→nxt (P++(X++(Y++S))) (st - 1)≤nxt (P++(X++(Y++S))) e)
  (f2:st<m→m<e→nxt (P++(X++(Y++S))) (e - 1)<nxt (P++(X++(Y++S))) st) :
  ∃A u v B,X=A++u∧Y=v++B∧st=a+A.length∧e=m+v.length∧mid=a+A.length+v.length∧(∀x∈u,∀y∈v,y.Time<x.Time)∧∀x∈A,∀y∈B,x.Time≤y.Time:=by
 have hA:(X.take (st - a).toNat).length=(st - a).toNat:=by rw [x4];omega
 have hv:(Y.take (e - m).toNat).length=(e - m).toNat:=by rw [x4];omega
 have eX:=List.take_append_drop (st - a).toNat X
 have eY:=List.take_append_drop (e - m).toNat Y
 have lX:=congrArg List.length eX
 have lY:=congrArg List.length eY
 simp only [xI] at lX lY
 have qX:P++(X++(Y++S))=(P++X)++(Y++S):=by simp
 have lP:(P++X).length=P.length+X.length:=xI
 have atX:∀i:Int,a≤i→i<m→∃h,nxt (P++(X++(Y++S))) i=(X[i.toNat - P.length]'h).Time:=fun i h0 h1=>b1s (by omega) (by omega)
 have atY:∀i:Int,m≤i→i<b→∃h,nxt (P++(X++(Y++S))) i=(Y[i.toNat - (P++X).length]'h).Time:=fun i h0 h1=>by rw [qX];exact b1s (by omega) (by omega)
 have leX:∀i j:Int,a≤i→i≤j→j<m→nxt (P++(X++(Y++S))) i≤nxt (P++(X++(Y++S))) j:=fun i j h0 h1 h2=>b8e hX (by omega) h1 (by omega)
 have leY:∀i j:Int,m≤i→i≤j→j<b→nxt (P++(X++(Y++S))) i≤nxt (P++(X++(Y++S))) j:=fun i j h0 h1 h2=>by rw [qX];exact b8e hY (by omega) h1 (by omega)
 refine ⟨X.take (st - a).toNat,X.drop (st - a).toNat,Y.take (e - m).toNat,Y.drop (e - m).toNat,eX.symm,eY.symm,by omega,by omega,by omega,fun x hx y hy=>?_,fun x hx y hy=>?_⟩
 ·obtain ⟨i,hi,rfl⟩:=xA.1 hx
  obtain ⟨j,hj,rfl⟩:=xA.1 hy
  rw [List.getElem_drop,List.getElem_take]
  obtain ⟨w,q⟩:=atX (st+i) (by omega) (by omega)
  obtain ⟨w',q'⟩:=atY (m+j) (by omega) (by omega)
  have k1:=leX st (st+i) (by omega) (by omega) (by omega)
  have k2:=leY (m+j) (e - 1) (by omega) (by omega) (by omega)
  have k3:=f2 (by omega) (by omega)
  rw [q] at k1
  rw [q'] at k2
  have i1:(st+(i:Int)).toNat - P.length=(st - a).toNat+i:=by omega
  have i2:(m+(j:Int)).toNat - (P++X).length=j:=by omega
  simp only [i1] at k1
  simp only [i2] at k2
  omega
 ·obtain ⟨i,hi,rfl⟩:=xA.1 hx
  obtain ⟨j,hj,rfl⟩:=xA.1 hy
  rw [List.getElem_drop,List.getElem_take]
  obtain ⟨w,q⟩:=atX (a+i) (by omega) (by omega)
  obtain ⟨w',q'⟩:=atY (e+j) (by omega) (by omega)
  have k1:=leX (a+i) (st - 1) (by omega) (by omega) (by omega)
  have k2:=leY e (e+j) (by omega) (by omega) (by omega)
  have k3:=f1 (by omega) (by omega)
  rw [q] at k1
  rw [q'] at k2
  have i1:(a+(i:Int)).toNat - P.length=i:=by omega
  have i2:(e+(j:Int)).toNat - (P++X).length=(e - m).toNat+j:=by omega
  simp only [i1] at k1
  simp only [i2] at k2
  omega
theorem d8j {P X M Y S:List d9} (hl:P.length+X.length+M.length+Y.length+S.length≤100000) (hx:X.length=Y.length) {a b n:Int} (ha:a=P.length) (hb:b=P.length+X.length+M.length) (hn:n=X.length) :
  Ok (F_l (P++(X++(M++(Y++S)))) a b n) (fun r=>r=P++(Y++(M++(X++S)))):=by
 unfold F_l
 refine Ok.bind (Ok.loop (Q:=fun r=>r=P++(Y++(M++(X++S)))) (fun s=>∃X1 X2 Y1 Y2,X=X1++X2∧Y=Y1++Y2∧X1.length=Y1.length∧s.1=(X1.length:Int)∧s.2=P++(Y1++(X2++(M++(X1++(Y2++S)))))) (fun s=>(n - s.1).toNat) (fun s hs=>?_) _ ⟨[],X,[],Y,rfl,rfl,rfl,rfl,rfl⟩) fun r hr=>Ok.ret hr
 obtain ⟨i,d⟩:=s
 obtain ⟨X1,X2,Y1,Y2,rfl,rfl,e1,e2,e3⟩:=hs
 simp only at e2 e3
 subst e2 e3
 simp only [xI] at hl hx hb hn
 unfold e4h
 refine Ok.ite (fun c=>?_) fun c=>?_
 ·have c:(X1.length:Int)<n:=by simpa using c
  obtain ⟨x,X2,rfl⟩:∃x q,X2=x::q:=by cases X2 with|nil=>simp at hn;omega|cons x q=>exact ⟨x,q,rfl⟩
  obtain ⟨y,Y2,rfl⟩:∃x q,Y2=x::q:=by cases Y2 with|nil=>simp at hx;omega|cons x q=>exact ⟨x,q,rfl⟩
  simp only [x5] at hl hx hb hn
  have q:P++(Y1++(x::X2++(M++(X1++(y::Y2++S)))))=(P++Y1)++x::((X2++(M++X1))++y::(Y2++S)):=by simp
  have l1:(a+(X1.length:Int)).toNat=(P++Y1).length:=by simp;omega
  have l2:(b+(X1.length:Int)).toNat=(P++Y1).length+1+(X2++(M++X1)).length:=by simp;omega
  have hin:∀{k:Int} {d:List d9},d.length=P.length+(X1.length+(X2.length+1))+M.length+(Y1.length+(Y2.length+1))+S.length→0≤k→k<b+X1.length+1→inb k d.length=true:=fun hd h0 h1=>p8.2 (by omega)
  have ld:((P++Y1)++x::((X2++(M++X1))++y::(Y2++S))).length=P.length+(X1.length+(X2.length+1))+M.length+(Y1.length+(Y2.length+1))+S.length:=by simp;omega
  rw [q,l1,l2,get_at,g38,e76]
  refine Ok.chk (a0i (by omega) (by simp only;omega)) (Ok.chk (a0i (by simp only;omega) (by simp only;omega)) (Ok.chk (a0i (by simp only;omega) (by simp only;omega)) (Ok.chk (hin ld (by simp only;omega) (by simp only;omega)) (Ok.chk (a0i (by simp only;omega) (by simp only;omega)) (Ok.chk (hin ld (by simp only;omega) (by simp only;omega)) (Ok.chk (hin ld (by simp only;omega) (by simp only;omega)) (Ok.chk (hin (by rw [List.length_set];exact ld) (by simp only;omega) (by simp only;omega)) (Ok.chk (a0i (by simp only;omega) (by simp only;omega)) (Ok.ret ⟨⟨X1++[x],X2,Y1++[y],Y2,by simp,by simp,by simp [e1],by simp,by simp⟩,by simp only;omega⟩)))))))))
 ·have c:¬(X1.length:Int)<n:=by simpa using c
  have hX:X2=[]:=zM.1 (by omega)
  have hY:Y2=[]:=zM.1 (by rw [hX] at hx;simp at hx;omega)
  subst hX hY
  refine Ok.ret ?_
  show _=_
  simp
theorem g4w {P X Y S:List d9} (hl:P.length+X.length+Y.length+S.length≤100000) (h1:0<X.length) (h2:0<Y.length) {a m b:Int} (ha:a=P.length) (hm:m=P.length+X.length) (hb:b=P.length+X.length+Y.length) :
  Ok (F_a (P++(X++(Y++S))) a m b) (fun r=>r=P++(Y++(X++S))):=by
 unfold F_a
 refine Ok.chk (a0i (by omega) (by omega)) (Ok.chk (a0i (by omega) (by omega)) (Ok.bind (Ok.loop (Q:=fun r:Int×List d9=>∃L A B R,L++(B++(A++R))=P++(Y++(X++S))∧r.2=L++(A++(B++R))∧(L.length:Int)=m - r.1∧r.1=(A.length:Int)∧A.length=B.length)
  (fun s=>∃L A B R,L++(B++(A++R))=P++(Y++(X++S))∧s.2.2=L++(A++(B++R))∧(L.length:Int)=m - s.1∧s.1=(A.length:Int)∧s.2.1=(B.length:Int)∧0<A.length∧0<B.length) (fun s=>(s.1+s.2.1).toNat) (fun s hs=>?_) _ ⟨P,X,Y,S,rfl,rfl,by simp only;omega,by simp only;omega,by simp only;omega,h1,h2⟩) fun r hr=>?_))
 ·obtain ⟨i,j,d⟩:=s
  obtain ⟨L,A,B,R,t,e1,e2,e3,e4,a0,b0⟩:=hs
  simp only at e1 e2 e3 e4
  subst e1 e3 e4
  have hlen:=congrArg List.length t
  simp only [xI] at hlen
  unfold e4s
  refine Ok.ite (fun c=>?_) fun c=>?_
  ·have c:¬(A.length:Int)=B.length:=by simpa using c
   refine Ok.ite (fun c2=>?_) fun c2=>?_
   ·have c2:(B.length:Int)<A.length:=by simpa using c2
    have eA:=List.take_append_drop B.length A
    have lA:(A.take B.length).length=B.length:=by rw [x4];omega
    have lA2:(A.drop B.length).length=A.length - B.length:=List.length_drop ..
    generalize A.take B.length=A1 at *
    generalize A.drop B.length=A2 at *
    subst eA
    simp only [xI] at *
    have e:L++(A1++A2++(B++R))=L++(A1++(A2++(B++R))):=by simp
    rw [e]
    refine Ok.chk (a0i (by (try simp only);omega) (by (try simp only);omega)) (Ok.bind (d8j (by omega) lA (by (try simp only);omega) (by (try simp only);omega) (by (try simp only);omega)) fun y hy=>?_)
    subst hy
    exact Ok.chk (a0i (by (try simp only);omega) (by (try simp only);omega)) (Ok.ret ⟨⟨L++B,A2,A1,R,by rw [←t];simp,by simp,by simp;omega,by (try simp only);omega,by (try simp only);omega,by omega,by omega⟩,by (try simp only);omega⟩)
   ·have c2:¬(B.length:Int)<A.length:=by simpa using c2
    have eB:=List.take_append_drop (B.length - A.length) B
    have lB:(B.take (B.length - A.length)).length=B.length - A.length:=by rw [x4];omega
    have lB2:(B.drop (B.length - A.length)).length=A.length:=by rw [List.length_drop];omega
    generalize B.take (B.length - A.length)=B1 at *
    generalize B.drop (B.length - A.length)=B2 at *
    subst eB
    simp only [xI] at *
    have e:L++(A++(B1++B2++R))=L++(A++(B1++(B2++R))):=by simp
    rw [e]
    refine Ok.chk (a0i (by (try simp only);omega) (by (try simp only);omega)) (Ok.chk (a0i (by (try simp only);omega) (by (try simp only);omega)) (Ok.chk (a0i (by (try simp only);omega) (by (try simp only);omega)) (Ok.bind (d8j (by omega) lB2.symm (by (try simp only);omega) (by (try simp only);omega) (by (try simp only);try omega)) fun y hy=>?_)))
    subst hy
    exact Ok.chk (a0i (by (try simp only);omega) (by (try simp only);omega)) (Ok.ret ⟨⟨L,B2,B1,A++R,by rw [←t];simp,by simp,by (try simp only);omega,by (try simp only);omega,by (try simp only);omega,by omega,by omega⟩,by (try simp only);omega⟩)
  ·have c:(A.length:Int)=B.length:=by simpa using c
   exact Ok.ret ⟨L,A,B,R,t,rfl,e2,rfl,by omega⟩
 ·obtain ⟨L,A,B,R,t,e1,e2,e3,e4⟩:=hr
  rw [e1]
  have hlen:=congrArg List.length t
  simp only [xI] at hlen
  have:=d8j (P:=L) (X:=A) (M:=[]) (Y:=B) (S:=R) (by simp;omega) e4 (a:=m - r.1) (b:=m) (n:=r.1) (by omega) (by simp;omega) (by omega)
  refine Ok.chk (a0i (by omega) (by omega)) (Ok.bind this fun y hy=>Ok.ret ?_)
  show y=_
  rw [hy,←t];rfl
theorem b7w {s:Int} (h0:0≤s) (h1:s≤1000000):IntKind.wrap .i64 ((IntKind.wrap .u64 s) / 2^1)=s / 2:=by
 rw [IntWalk.u64_in s ⟨h0,by omega⟩,IntWalk.i64_in _ ⟨by omega,by omega⟩];rfl
theorem f6c {x y:d9} (hx:tOK x) (hy:tOK y):d1z x y=some (x.Time - y.Time):=by
 have:=hx.1;have:=hx.2;have:=hy.1;have:=hy.2
 exact o5 (a0i (by omega) (by omega))
theorem bs {f:Int×Int→Option (Fl (Int×Int) Int)} {q:Int→Prop} {lo hi:Int} (hl:lo≤hi)
  (hf:∀i j,lo≤i→j≤hi→i<j→Ok (f (i,j)) fun o=>(q ((i+j) / 2)∧o=.nx ((i+j) / 2+1,j))∨(¬q ((i+j) / 2)∧o=.nx (i,(i+j) / 2)))
  (hf':∀i j,¬i<j→f (i,j)=some (.ex i))
  (hm:∀c c',lo≤c→c≤c'→c'<hi→q c'→q c) :
  Ok (loop f (lo,hi)) (fun r=>lo≤r∧r≤hi∧(∀c,lo≤c→c<r→q c)∧∀c,r≤c→c<hi→¬q c):=by
 refine Ok.loop (fun s=>lo≤s.1∧s.1≤s.2∧s.2≤hi∧(∀c,lo≤c→c<s.1→q c)∧∀c,s.2≤c→c<hi→¬q c) (fun s=>(s.2 - s.1).toNat) (fun s hs=>?_) _ ⟨vK _,hl,vK _,fun c h0 h1=>by simp only at h1;omega,fun c h0 h1=>by simp only at h0;omega⟩
 obtain ⟨i,j⟩:=s
 obtain ⟨a1,a2,a3,a4,a5⟩:=hs
 simp only at a1 a2 a3 a4 a5
 by_cases c:i<j
 ·refine (hf i j a1 a3 c).mono fun o ho=>?_
  rcases ho with ⟨hq,rfl⟩|⟨hq,rfl⟩
  ·exact ⟨⟨by simp only;omega,by simp only;omega,a3,fun c h0 h1=>hm c _ h0 (by simp only at h1;omega) (by omega) hq,a5⟩,by simp only;omega⟩
  ·exact ⟨⟨a1,by simp only;omega,by simp only;omega,a4,fun c h0 h1 hc=>hq (hm _ c (by omega) h0 h1 hc)⟩,by simp only;omega⟩
 ·rw [hf' i j c]
  have e:i=j:=by omega
  subst e
  exact Ok.ret ⟨a1,a3,a4,a5⟩
theorem c3b:∀n (d:List d9) (a m b:Int),Le (b8j n d a m b) (b8j (n+1) d a m b)
 | 0,d,a,m,b=>by simp only [b8j];exact Le.non
 | n+1,d,a,m,b=>by
  have ih:=c3b n
  rw [b8j,b8j]
  (repeat' (with_reducible first|exact Le.refl|assumption|exact ih _ _ _ _|(refine Le.bind ?_ fun _=>?_)|(refine Le.jn ?_ fun _=>?_)|(refine Le.grp fun _=>?_)|(refine Le.chk ?_)|(refine Le.cond ?_ ?_)|(refine Le.fl (fun _=>?_) fun _=>?_)|(refine Le.sum (fun _=>?_) fun _=>?_)|(refine Le.loopL fun _=>?_)))
theorem e7u {P Y S:List d9} {q q':Int→Prop} {m b i:Int} (hm:m=P.length) (hb:b=m+Y.length) (h0:m≤i) (h1:i≤b) (k1:∀c,m≤c→c<i→q (nxt (P++(Y++S)) c)) (k2:∀c,i≤c→c<b→q' (nxt (P++(Y++S)) c)) :
  ∃v B,Y=v++B∧i=m+v.length∧(∀y∈v,q y.Time)∧∀y∈B,q' y.Time:=by
 have eY:=List.take_append_drop (i - m).toNat Y
 refine ⟨Y.take (i - m).toNat,Y.drop (i - m).toNat,eY.symm,by rw [x4];omega,fun y hy=>?_,fun y hy=>?_⟩
 ·obtain ⟨j,hj,rfl⟩:=xA.1 hy
  have hj':=hj
  rw [x4] at hj'
  obtain ⟨w,e⟩:=b1s (P:=P) (Q:=Y) (S:=S) (i:=m+j) (by omega) (by omega)
  have:=k1 (m+j) (by omega) (by omega)
  rw [e] at this
  have i1:(m+(j:Int)).toNat - P.length=j:=by omega
  simp only [i1] at this
  rw [List.getElem_take];exact this
 ·obtain ⟨j,hj,rfl⟩:=xA.1 hy
  have hj':=hj
  rw [List.length_drop] at hj'
  obtain ⟨w,e⟩:=b1s (P:=P) (Q:=Y) (S:=S) (i:=i+j) (by omega) (by omega)
  have:=k2 (i+j) (by omega) (by omega)
  rw [e] at this
  have i1:(i+(j:Int)).toNat - P.length=(i - m).toNat+j:=by omega
  simp only [i1] at this
  rw [List.getElem_drop];exact this
theorem b23 (d:List d9) (i:Int):(d.getD i.toNat default).Time=nxt d i:=rfl
theorem e2a {d:List d9} (h:∀x∈d,tOK x) {i:Int} (h0:0≤i) (h1:i<d.length):tOK (d.getD i.toNat default):=by
 rw [zE,zJ (by omega)]
 exact h _ (x6 _)
theorem f8p:∀(n:Nat) {P X Y S:List d9} (hl:P.length+X.length+Y.length+S.length≤100000) (hn:X.length+Y.length≤n) (hX:byT X) (hY:byT Y) (h1:0<X.length) (h2:0<Y.length) (ht:∀x∈P++(X++(Y++S)),tOK x) {a m b:Int} (ha:a=P.length) (hm:m=P.length+X.length) (hb:b=P.length+X.length+Y.length),
  Ok (b8j n (P++(X++(Y++S))) a m b) (fun r=>∃R,r=P++(R++S)∧Srt (X++Y) R)
 | 0,P,X,Y,S,hl,hn,hX,hY,h1,h2,ht,a,m,b,ha,hm,hb=>by omega
 | n + 1,P,X,Y,S,hl,hn,hX,hY,h1,h2,ht,a,m,b,ha,hm,hb=>by
  rw [b8j]
  have qX:P++(X++(Y++S))=(P++X)++(Y++S):=by simp
  have ld:(P++(X++(Y++S))).length=P.length+X.length+Y.length+S.length:=by simp;omega
  have leX:∀i j:Int,a≤i→i≤j→j<m→nxt (P++(X++(Y++S))) i≤nxt (P++(X++(Y++S))) j:=fun i j h0 h1 h2=>b8e hX (by omega) h1 (by omega)
  have lP:(P++X).length=P.length+X.length:=xI
  have leY:∀i j:Int,m≤i→i≤j→j<b→nxt (P++(X++(Y++S))) i≤nxt (P++(X++(Y++S))) j:=fun i j h0 h1 h2=>by rw [qX];exact b8e hY (by omega) h1 (by omega)
  have gin:∀{i:Int},0≤i→i<b→inb i (P++(X++(Y++S))).length=true:=fun h0 h1=>p8.2 (by omega)
  have gok:∀{i:Int},0≤i→i<b→tOK ((P++(X++(Y++S))).getD i.toNat default):=fun h0 h1=>e2a ht h0 (by omega)
  generalize hd:P++(X++(Y++S))=d at *
  refine Ok.chk (a0i (by omega) (by omega)) (Ok.ite (fun c=>?_) fun c=>?_)
  ·have c:m - a=1:=by simpa using c
   obtain ⟨x,rfl⟩:∃x,X=[x]:=List.length_eq_one_iff.1 (by omega)
   have hx:nxt d a=x.Time:=by rw [←hd];unfold nxt;rw [show a.toNat=P.length by omega];exact congrArg _ (get_at P x _)
   simp only [zU] at hl hn hm hb ld lP
   refine Ok.bind (bs (q:=fun c=>nxt d c<nxt d a) (by omega) (fun i j h0 h1 h2=>?_) (fun i j h=>?_) fun c c' h0 h1 h2 hq=>?_) fun i hi=>?_
   ·simp only [wR h2,vN]
    rw [b7w (s:=i+j) (by omega) (by omega)]
    refine Ok.chk (a0i (by omega) (by omega)) (Ok.chk (gin (by omega) (by omega)) (Ok.chk (gin (by omega) (by omega)) ?_))
    rw [f6c (gok (by omega) (by omega)) (gok (by omega) (by omega)),xY,b23,b23]
    refine Ok.ite (fun c=>Ok.chk (a0i (by omega) (by omega)) (Ok.ret (.inl ⟨?_,rfl⟩))) fun c=>Ok.ret (.inr ⟨?_,rfl⟩)
    ·simp at c;omega
    ·simp at c;omega
   ·simp only [wE h,vL]
   ·have:=leY c c' h0 h1 h2
    omega
   obtain ⟨s0,s1,s2,s3⟩:=hi
   rw [hx] at s2 s3
   obtain ⟨v,B,rfl,q1,q2,q3⟩:=e7u (P:=P++[x]) (Y:=Y) (S:=S) (q:=fun t=>t<x.Time) (q':=fun t=>¬t<x.Time) (m:=m) (b:=b) (i:=i) (by rw [xI,zU];omega) (by omega) s0 s1 (fun c h0 h1=>by rw [←qX];exact s2 c h0 h1) (fun c h0 h1=>by rw [←qX];exact s3 c h0 h1)
   simp only [xI] at hl hn h2 hb ld
   have hvB:=a7b.1 hY
   refine Ok.bind (Ok.loop (Q:=fun r=>r=P++(v++([x]++(B++S)))) (fun s=>∃v1 v2,v=v1++v2∧s.1=a+(v1.length:Int)∧s.2=P++(v1++(x::(v2++(B++S))))) (fun s=>(i - s.1).toNat) (fun s hs=>?_) _ ⟨[],v,rfl,by simp,by rw [←hd];simp⟩) fun r hr=>Ok.ret ⟨v++([x]++B),by rw [hr];simp,?_⟩
   ·obtain ⟨k,d'⟩:=s
    obtain ⟨v1,v2,rfl,e1,e2⟩:=hs
    simp only at e1 e2
    subst e1 e2
    simp only [xI] at hl hn h2 hb ld q1
    refine Ok.chk (a0i (by omega) (by omega)) (Ok.ite (fun c=>?_) fun c=>?_)
    ·have c:a+(v1.length:Int)<i - 1:=by simpa using c
     obtain ⟨y,v2,rfl⟩:∃y q,v2=y::q:=by cases v2 with|nil=>simp at q1;omega|cons y q=>exact ⟨y,q,rfl⟩
     simp only [x5] at hl hn h2 hb ld q1
     have e3:P++(v1++(x::(y::v2++(B++S))))=(P++v1)++x::([]++y::(v2++(B++S))):=by simp
     have l1:(a+(v1.length:Int)).toNat=(P++v1).length:=by simp;omega
     have l2:(a+(v1.length:Int)+1).toNat=(P++v1).length+1+([]:List d9).length:=by simp;omega
     have lz:((P++v1)++x::([]++y::(v2++(B++S)))).length=P.length+v1.length+2+v2.length+B.length+S.length:=by simp;omega
     have hin:∀{k:Int} {d:List d9},d.length=P.length+v1.length+2+v2.length+B.length+S.length→0≤k→k<a+v1.length+2→inb k d.length=true:=fun hd h0 h1=>p8.2 (by omega)
     rw [e3,l1,l2,get_at,g38,e76]
     refine Ok.chk (a0i (by omega) (by omega)) (Ok.chk (a0i (by omega) (by omega)) (Ok.chk (hin lz (by omega) (by omega)) (Ok.chk (hin lz (by omega) (by omega)) (Ok.chk (hin lz (by omega) (by omega)) (Ok.chk (hin (by rw [List.length_set];exact lz) (by omega) (by omega)) (Ok.chk (a0i (by omega) (by omega)) (Ok.ret ⟨⟨v1++[y],v2,by simp,by simp;omega,by simp⟩,by simp only;omega⟩)))))))
    ·have c:¬a+(v1.length:Int)<i - 1:=by simpa using c
     have:v2=[]:=zM.1 (by omega)
     subst this
     refine Ok.ret ?_
     show _=_
     simp
   ·refine Srt.cat (A:=[]) (u:=[x]) (Srt.id hvB.1) (Srt.id (a7b.2 ⟨by simp [byT],hvB.2.1,fun z hz y hy=>?_⟩)) (by simp [byT]) hY (fun z hz y hy=>?_) (by simp)
    ·simp at hz;subst hz;have:=q3 y hy;omega
    ·simp at hz;subst hz;exact q2 y hy
  ·refine Ok.chk (a0i (by omega) (by omega)) (Ok.ite (fun c2=>?_) fun c2=>?_)
   ·have c2:b - m=1:=by simpa using c2
    obtain ⟨y,rfl⟩:∃y,Y=[y]:=List.length_eq_one_iff.1 (by omega)
    have hy:nxt d m=y.Time:=by rw [qX];unfold nxt;rw [show m.toNat=(P++X).length by omega];exact congrArg _ (get_at (P++X) y _)
    simp only [zU] at hl hn hb ld
    refine Ok.bind (bs (q:=fun c=>nxt d c≤nxt d m) (by omega) (fun i j h0 h1 h2=>?_) (fun i j h=>?_) fun c c' h0 h1 h2 hq=>?_) fun i hi=>?_
    ·simp only [wR h2,vN]
     rw [b7w (s:=i+j) (by omega) (by omega)]
     refine Ok.chk (a0i (by omega) (by omega)) (Ok.chk (gin (by omega) (by omega)) (Ok.chk (gin (by omega) (by omega)) ?_))
     rw [f6c (gok (by omega) (by omega)) (gok (by omega) (by omega)),xY,b23,b23]
     refine Ok.ite (fun c=>Ok.chk (a0i (by omega) (by omega)) (Ok.ret (.inl ⟨?_,rfl⟩))) fun c=>Ok.ret (.inr ⟨?_,rfl⟩)
     ·simp at c;omega
     ·simp at c;omega
    ·simp only [wE h,vL]
    ·have:=leX c c' h0 h1 h2
     omega
    obtain ⟨s0,s1,s2,s3⟩:=hi
    rw [hy] at s2 s3
    obtain ⟨A,u,rfl,q1,q2,q3⟩:=e7u (P:=P) (Y:=X) (S:=[y]++S) (q:=fun t=>t≤y.Time) (q':=fun t=>¬t≤y.Time) (m:=a) (b:=m) (i:=i) ha (by omega) s0 s1 (fun c h0 h1=>by rw [hd];exact s2 c h0 h1) (fun c h0 h1=>by rw [hd];exact s3 c h0 h1)
    simp only [xI] at hl hn h1 hm hb ld
    have hAu:=a7b.1 hX
    refine Ok.bind (Ok.loop (Q:=fun r=>r=P++(A++(y::(u++S)))) (fun s=>∃u1 u2,u=u1++u2∧s.1=i+(u1.length:Int)∧s.2=P++(A++(u1++(y::(u2++S))))) (fun s=>(s.1 - i).toNat) (fun s hs=>?_) _ ⟨u,[],by simp,by simp only;omega,by rw [←hd];simp⟩) fun r hr=>Ok.ret ⟨(A++[y])++u,by rw [hr];simp,?_⟩
    ·obtain ⟨k,d'⟩:=s
     obtain ⟨u1,u2,rfl,e1,e2⟩:=hs
     simp only at e1 e2
     subst e1 e2
     simp only [xI] at hl hn h1 hm hb ld
     refine Ok.ite (fun c=>?_) fun c=>?_
     ·have c:i<i+(u1.length:Int):=by simpa using c
      obtain ⟨w,z,rfl⟩:∃w z,u1=w++[z]:=⟨u1.dropLast,u1.getLast (by intro e;rw [e] at c;simp at c),(List.dropLast_concat_getLast _).symm⟩
      simp only [xI,zU] at hl hn h1 hm hb ld c
      have e3:P++(A++(w++[z]++(y::(u2++S))))=(P++(A++w))++z::y::(u2++S):=by simp
      have l1:(i+((w++[z]).length:Int)).toNat=(P++(A++w)).length+1:=by simp;omega
      have l2:(i+((w++[z]).length:Int) - 1).toNat=(P++(A++w)).length:=by simp;omega
      have lz:((P++(A++w))++z::y::(u2++S)).length=P.length+A.length+w.length+2+u2.length+S.length:=by simp;omega
      have lw:((w++[z]).length:Int)=w.length+1:=by simp
      have hin:∀{k:Int} {d:List d9},d.length=P.length+A.length+w.length+2+u2.length+S.length→0≤k→k<i+w.length+2→inb k d.length=true:=fun hd h0 h1=>p8.2 (by omega)
      have g1:((P++(A++w))++z::y::(u2++S)).getD ((P++(A++w)).length+1) default=y:=by
       have:=get_at ((P++(A++w))++[z]) y (u2++S)
       rw [xI (bs:=[z]),List.append_assoc _ [z]] at this
       exact this
      rw [e3,l1,l2,g1,get_at,b76]
      refine Ok.chk (a0i (by omega) (by omega)) (Ok.chk (a0i (by omega) (by omega)) (Ok.chk (hin lz (by omega) (by omega)) (Ok.chk (hin lz (by omega) (by omega)) (Ok.chk (hin lz (by omega) (by omega)) (Ok.chk (hin (by rw [List.length_set];exact lz) (by omega) (by omega)) (Ok.chk (a0i (by omega) (by omega)) (Ok.ret ⟨⟨w,z::u2,by simp,by simp only;omega,by simp⟩,by simp only;omega⟩)))))))
     ·have c:¬i<i+(u1.length:Int):=by simpa using c
      have:u1=[]:=zM.1 (by omega)
      subst this
      exact Ok.ret rfl
    ·have:=Srt.cat (A:=A) (u:=u) (v:=[y]) (B:=[]) (Srt.id (a7b.2 ⟨hAu.1,by simp [byT],fun x hx z hz=>by simp at hz;subst hz;exact q2 x hx⟩)) (Srt.id (by rw [wO];exact hAu.2.1)) hX (by simp [byT]) (fun x hx z hz=>by simp at hz;subst hz;have:=q3 x hx;omega) (by simp)
     simpa using this
   ·rw [b7w (by omega) (by omega)]
    obtain ⟨mid,hmid⟩:∃mid,mid=(a+b) / 2:=⟨_,rfl⟩
    rw [←hmid]
    refine Ok.chk (a0i (by omega) (by omega)) (Ok.chk (a0i (by omega) (by omega)) (Ok.jn (P:=fun j:Int×Int=>(mid<m∧j=(mid+m - b,mid))∨(m≤mid∧j=(a,m))) (Ok.ite (fun c=>Ok.chk (a0i (by omega) (by omega)) (Ok.ret (.inl ⟨by simpa using c,rfl⟩))) fun c=>Ok.ret (.inr ⟨by simpa using c,rfl⟩)) fun j hj=>?_))
    obtain ⟨lo,hi⟩:=j
    have hlo:a≤lo∧mid+m - b≤lo∧(lo=a∨lo=mid+m - b)∧lo≤hi∧hi≤m∧hi≤mid∧(hi=m∨hi=mid):=by
     rcases hj with ⟨h,e⟩|⟨h,e⟩<;>cases e<;>omega
    clear hj
    obtain ⟨l1,l2,l3,l4,l5,l6,l7⟩:=hlo
    refine Ok.chk (a0i (by omega) (by omega)) (Ok.bind (bs (q:=fun c=>nxt d c≤nxt d (mid+m - 1 - c)) l4 (fun i j h0 h1 h2=>?_) (fun i j h=>?_) fun c c' h0 h1 h2 hq=>?_) fun st hst=>?_)
    ·simp only [wR h2,vN]
     rw [b7w (s:=i+j) (by omega) (by omega)]
     refine Ok.chk (a0i (by omega) (by omega)) (Ok.chk (a0i (by omega) (by omega)) (Ok.chk (gin (by omega) (by omega)) (Ok.chk (gin (by omega) (by omega)) ?_)))
     rw [f6c (gok (by omega) (by omega)) (gok (by omega) (by omega)),xY,b23,b23]
     refine Ok.ite (fun c=>Ok.chk (a0i (by omega) (by omega)) (Ok.ret (.inl ⟨?_,rfl⟩))) fun c=>Ok.ret (.inr ⟨?_,rfl⟩)
     ·simp at c;omega
     ·simp at c;omega
    ·simp only [wE h,vL]
    ·have:=leX c c' (by omega) h1 (by omega)
     have:=leY (mid+m - 1 - c') (mid+m - 1 - c) (by omega) (by omega) (by omega)
     omega
    obtain ⟨s0,s1,s2,s3⟩:=hst
    have hs1:lo<st→nxt d (st - 1)≤nxt d (mid+m - 1 - (st - 1)):=fun h=>s2 (st - 1) (by omega) (by omega)
    have hs2:st<hi→nxt d (mid+m - 1 - st)<nxt d st:=fun h=>by have:=s3 st (by omega) h;omega
    obtain ⟨e,he⟩:∃e,e=mid+m - st:=⟨_,rfl⟩
    rw [←he]
    rw [show mid+m - 1 - (st - 1)=e by omega] at hs1
    rw [show mid+m - 1 - st=e - 1 by omega] at hs2
    obtain ⟨A,u,v,B,rfl,rfl,q1,q2,q3,q4,q5⟩:=g04 (P:=P) (S:=S) hX hY (a:=a) (m:=m) (b:=b) (mid:=mid) (st:=st) (e:=e) ha (by omega) (by omega) hmid he (by omega) (by omega) (by omega) (by omega) (fun h h'=>by rw [hd];exact hs1 (by omega)) (fun h h'=>by rw [hd];exact hs2 (by omega))
    simp only [xI] at hl hn h1 h2 hm hb ld lP
    have hAu:=a7b.1 hX
    have hvB:=a7b.1 hY
    have e0:d=(P++A)++(u++(v++(B++S))):=by rw [←hd];simp
    refine Ok.chk (a0i (by omega) (by omega)) (Ok.jn (P:=fun j=>j=P++(A++(v++(u++(B++S))))) ?_ fun j hj=>?_)
    ·refine Ok.ite (fun c=>?_) fun c=>?_
     ·have c:st<m∧m<e:=by simpa using c
      rw [e0]
      refine Ok.bind (g4w (by simp;omega) (by omega) (by omega) (by simp;omega) (by simp;omega) (by simp;omega)) fun y hy=>Ok.ret ?_
      show y=_
      rw [hy];simp
     ·have c:¬(st<m∧m<e):=by simpa using c
      refine Ok.ret ?_
      show d=_
      rw [e0]
      by_cases hu:u.length=0
      ·rw [zM.1 hu];simp
      ·rw [zM.1 (show v.length=0 by omega)];simp
    subst hj
    have ht2:∀x∈P++(A++(v++(u++(B++S)))),tOK x:=fun x hx=>ht x (by rw [e0];simp only [wJ] at hx ⊢;rcases hx with h|h|h|h|h|h<;>simp [h])
    refine Ok.jn (P:=fun j=>∃L,j=P++(L++(u++(B++S)))∧Srt (A++v) L) ?_ fun j hj=>?_
    ·refine Ok.ite (fun c=>?_) fun c=>?_
     ·have c:a<st∧st<mid:=by simpa using c
      exact Ok.bind (f8p n (by simp;omega) (by omega) hAu.1 hvB.1 (by omega) (by omega) ht2 ha (by omega) (by omega)) fun y hy=>Ok.ret hy
     ·have c:¬(a<st∧st<mid):=by simpa using c
      refine Ok.ret ⟨A++v,by simp,Srt.id ?_⟩
      by_cases hA:A.length=0
      ·rw [zM.1 hA];exact hvB.1
      ·rw [zM.1 (show v.length=0 by omega),wO];exact hAu.1
    obtain ⟨L,rfl,hL⟩:=hj
    have lL:L.length=A.length+v.length:=by have:=hL.p.length_eq;simpa using this
    refine Ok.grp (Ok.ite (fun c=>?_) fun c=>?_)
    ·have c:mid<e∧e<b:=by simpa using c
     have e1:P++(L++(u++(B++S)))=(P++L)++(u++(B++S)):=by simp
     rw [e1]
     have ht3:∀x∈(P++L)++(u++(B++S)),tOK x:=fun x hx=>ht2 x (by
      have hp:=hL.p.mem_iff (a:=x)
      simp only [wJ] at hx hp ⊢
      rcases hx with (h|h)|h|h|h
      ·simp [h]
      ·rcases hp.1 h with h|h<;>simp [h]
      ·simp [h]
      ·simp [h]
      ·simp [h])
     refine Ok.bind (f8p n (by simp;omega) (by omega) hAu.2.1 hvB.2.1 (by omega) (by omega) ht3 (by simp;omega) (by simp;omega) (by simp;omega)) fun y hy=>Ok.ret ?_
     obtain ⟨R,rfl,hR⟩:=hy
     exact ⟨L++R,by simp,Srt.cat hL hR hX hY q4 q5⟩
    ·have c:¬(mid<e∧e<b):=by simpa using c
     refine Ok.ret ⟨L++(u++B),by simp,Srt.cat hL (Srt.id ?_) hX hY q4 q5⟩
     by_cases hu:u.length=0
     ·rw [zM.1 hu];exact hvB.2.1
     ·rw [zM.1 (show B.length=0 by omega),wO];exact hAu.2.1
theorem g55 {c:d9} {P p s:List d9} (hp:byT p) (hc:tOK c) (hb:∀x∈p,tOK x) (hl:P.length+p.length+s.length≤1000) {a i:Int} (ha:a=P.length) (hi:i=P.length+p.length) :
  Ok (loop (d89 a) (i,P++(p++c::s)))
   fun r=>∃p1 p2,r=P++(p1++c::(p2++s))∧p1++p2=p∧(∀x∈p1,x.Time≤c.Time)∧∀x∈p2,c.Time<x.Time:=by
 refine Ok.loop (fun st=>∃p1 p2,st.1=P.length+(p1.length:Int)∧st.2=P++(p1++c::(p2++s))∧p1++p2=p∧∀x∈p2,c.Time<x.Time) (fun st=>st.1.toNat) (fun st hst=>?_) _ ⟨p,[],hi,by simp,by simp,by simp⟩
 obtain ⟨j,d⟩:=st
 obtain ⟨p1,p2,h1,h2,h3,h4⟩:=hst
 simp only at h1 h2
 subst h1 h2
 have hl1:p1.length+p2.length=p.length:=by rw [←h3];simp
 unfold d89
 refine Ok.ite (fun h0=>?_) fun h0=>?_
 ·have hpos:0<p1.length:=by
   have:a<P.length+(p1.length:Int):=by simpa using h0
   omega
  obtain ⟨q,b,rfl⟩:∃q b,p1=q++[b]:=⟨p1.dropLast,p1.getLast (by intro e;rw [e] at hpos;simp at hpos),(List.dropLast_concat_getLast _).symm⟩
  simp only [xI,zU] at hl1
  have lb:((q++[b]).length:Int)=q.length+1:=by simp
  have e0:P++((q++[b])++c::(p2++s))=(P++q)++b::c::(p2++s):=by simp
  have e1:(P.length+((q++[b]).length:Int)).toNat=(P++q).length+1:=by simp only [xI,zU];omega
  have e2:(P.length+((q++[b]).length:Int) - 1).toNat=(P++q).length:=by simp only [xI,zU];omega
  have g1:((P++q)++b::c::(p2++s)).getD ((P++q).length+1) default=c:=by
   have:=get_at ((P++q)++[b]) c (p2++s)
   rw [xI (bs:=[b]),List.append_assoc _ [b]] at this
   exact this
  have hbt:tOK b:=hb b (by rw [←h3];simp)
  have lz:((P++q)++b::c::(p2++s)).length=P.length+q.length+2+p2.length+s.length:=by simp;omega
  have hin:∀{k:Int} {d:List d9},d.length=P.length+q.length+2+p2.length+s.length→0≤k→k<P.length+q.length+2→inb k d.length=true:=fun hd h0 h1=>p8.2 (by omega)
  rw [e0,e1,e2,g1,get_at]
  refine Ok.chk (hin lz (by omega) (by omega)) (Ok.chk (a0i (by omega) (by omega)) (Ok.chk (hin lz (by omega) (by omega)) ?_))
  rw [f6c hc hbt,xY]
  refine Ok.ite (fun hlt=>?_) fun hge=>?_
  ·have hlt':c.Time<b.Time:=by have:=of_decide_eq_true hlt;omega
   rw [b76]
   refine Ok.chk (a0i (by omega) (by omega)) (Ok.chk (a0i (by omega) (by omega)) (Ok.chk (hin lz (by omega) (by omega)) (Ok.chk (hin lz (by omega) (by omega)) (Ok.chk (hin lz (by omega) (by omega)) (Ok.chk (hin (by rw [List.length_set];exact lz) (by omega) (by omega)) (Ok.chk (a0i (by omega) (by omega)) (Ok.ret ⟨⟨q,b::p2,by simp only;omega,by simp,by rw [←h3];simp,fun x hx=>?_⟩,by simp only;omega⟩)))))))
   rcases wV.1 hx with rfl|hx
   ·exact hlt'
   ·exact h4 x hx
  ·have hge':b.Time≤c.Time:=by have:=of_decide_eq_false hge;omega
   refine Ok.ret ⟨q++[b],p2,by simp,h3,fun x hx=>?_,h4⟩
   rw [←h3] at hp
   have hq:=(List.pairwise_append.1 (List.pairwise_append.1 hp).1).2.2
   rcases wJ.1 hx with hx|hx
   ·exact Int.le_trans (hq x hx b (by simp)) hge'
   ·simp at hx;subst hx;exact hge'
 ·have h0:¬a<P.length+(p1.length:Int):=by simpa using h0
  have hz:p1.length=0:=by omega
  obtain rfl:=zM.1 hz
  exact Ok.ret ⟨[],p2,rfl,h3,by simp,h4⟩
theorem g37 {P Q S:List d9} (hl:P.length+Q.length+S.length≤900) (ht:∀x∈Q,tOK x) {a b:Int} (ha:a=P.length) (hb:b=P.length+Q.length) :
  Ok (F_k (P++(Q++S)) a b) (fun r=>∃R,r=P++(R++S)∧Srt Q R):=by
 unfold F_k
 refine Ok.chk (a0i (by omega) (by omega)) (Ok.bind (P:=fun r=>∃R,r=P++(R++S)∧Srt Q R) ?_ fun r hr=>Ok.ret hr)
 by_cases h0:Q=[]
 ·subst h0
  rw [a1t]
  unfold d86
  rw [wE (by simp at hb;simp only;omega)]
  exact Ok.ret ⟨[],rfl,Srt.id (by simp [byT])⟩
 obtain ⟨x0,r0,rfl⟩:∃a r,Q=a::r:=by cases Q with|nil=>exact absurd rfl h0|cons a r=>exact ⟨a,r,rfl⟩
 refine Ok.loop (fun st=>∃pre s,st.1=P.length+(pre.length:Int)∧1≤pre.length∧st.2=P++(pre++(s++S))∧s=(x0::r0).drop pre.length∧pre.length≤(x0::r0).length∧Srt ((x0::r0).take pre.length) pre) (fun st=>(b - st.1).toNat) (fun st hst=>?_) _ ⟨[x0],r0,by simp;omega,by simp,by simp,rfl,by simp,Srt.id (by simp [byT])⟩
 obtain ⟨i,x⟩:=st
 obtain ⟨pre,s,h1,h2,h3,h4,h5,h6⟩:=hst
 simp only at h1 h3
 subst h1 h3
 unfold d86
 refine Ok.ite (fun hlt=>?_) fun hge=>?_
 ·have hlt':pre.length<(x0::r0).length:=by have:=of_decide_eq_true hlt;omega
  have hc:=List.drop_eq_getElem_cons hlt'
  have hmem:(x0::r0)[pre.length]∈x0::r0:=x6 hlt'
  have htk:(x0::r0).take (pre.length+1)=(x0::r0).take pre.length++[(x0::r0)[pre.length]]:=by rw [List.take_succ,zJ hlt'];rfl
  generalize (x0::r0)[pre.length]=c at hc hmem htk
  have es:s=c::(x0::r0).drop (pre.length+1):=h4.trans hc
  have hpm:∀y∈pre,y∈x0::r0:=fun y hy=>List.mem_of_mem_take (h6.p.mem_iff.1 hy)
  have hdl:((x0::r0).drop (pre.length+1)).length=(x0::r0).length - (pre.length+1):=List.length_drop ..
  rw [es,wA]
  refine Ok.bind (g55 (s:=(x0::r0).drop (pre.length+1)++S) h6.s (ht c hmem) (fun y hy=>ht y (hpm y hy)) (by rw [xI];omega) ha rfl) fun y hy=>?_
  obtain ⟨p1,p2,e1,e2,e3,e4⟩:=hy
  subst e1
  have hlen:(p1++c::p2).length=pre.length+1:=by rw [←e2];simp;omega
  have hs:=h6.ins e2 e3 e4
  refine Ok.chk (a0i (by omega) (by omega)) (Ok.ret ⟨⟨p1++c::p2,(x0::r0).drop (pre.length+1),by rw [hlen];simp only;omega,by rw [hlen];omega,by simp,by rw [hlen],by rw [hlen];omega,?_⟩,by simp only;omega⟩)
  rw [hlen,htk];exact hs
 ·have hge':(x0::r0).length≤pre.length:=by have:=of_decide_eq_false hge;omega
  have e:pre.length=(x0::r0).length:=by omega
  rw [h4,e,List.drop_length,wH]
  rw [e,xZ] at h6
  exact Ok.ret ⟨pre,rfl,h6⟩
def blk (w j:Nat) (l:List d9):List d9:=(l.drop (j*w)).take w
theorem a8x {w j:Nat} {P Q:List d9} (h:j*w+w≤P.length):blk w j (P++Q)=blk w j P:=by
 unfold blk
 rw [List.drop_append_of_le_length (by omega),List.take_append_of_le_length (by rw [List.length_drop];omega)]
theorem d1h {w j:Nat} {P Q Q':List d9} (h:Q.length≤j*w) (e:Q.length=Q'.length):blk w j (Q++P)=blk w j (Q'++P):=by
 unfold blk
 have a:List.drop (j*w) Q=[]:=List.drop_eq_nil_of_le h
 have b:List.drop (j*w) Q'=[]:=List.drop_eq_nil_of_le (e▸h)
 rw [List.drop_append,List.drop_append,a,b,e]
theorem c2r (w k:Nat) (l:List d9):blk (2*w) k l=blk w (2*k) l++blk w (2*k+1) l:=by
 unfold blk
 have e1:k*(2*w)=2*k*w:=by rw [←Nat.mul_assoc,Nat.mul_comm k 2]
 have e2:(2*k+1)*w=2*k*w+w:=Nat.succ_mul ..
 rw [e1,e2,show 2*w=w+w by omega,List.take_add,List.drop_drop]
theorem a8d {w j:Nat} {l:List d9} (h:l.length≤j*w):blk w j l=[]:=by unfold blk;rw [List.drop_eq_nil_of_le h];simp
theorem Srt.tr {x y r:List d9} {x' y':List d9} (hx:Srt x x') (hy:Srt y y') (h:Srt (x'++y') r):Srt (x++y) r :=
 ⟨h.s,fun t=>by rw [h.f,a9i,a9i,hx.f,hy.f],h.p.trans (hx.p.append hy.p)⟩
theorem Srt.len {x y:List d9} (h:Srt x y):y.length=x.length:=h.p.length_eq
theorem e83 {P X Y S:List d9} (hl:P.length+X.length+Y.length+S.length≤100000) (hX:byT X) (hY:byT Y) (h1:0<X.length) (h2:0<Y.length) (ht:∀x∈P++(X++(Y++S)),tOK x) {a m b:Int} (ha:a=P.length) (hm:m=P.length+X.length) (hb:b=P.length+X.length+Y.length) :
  Ok (F_0 (P++(X++(Y++S))) a m b) (fun r=>∃R,r=P++(R++S)∧Srt (X++Y) R) :=
 Ok.lim (fun n=>c3b n _ _ _ _) _ (f8p (X.length+Y.length) hl (vI _) hX hY h1 h2 ht ha hm hb)
structure Bs (w:Nat) (d x:List d9):Prop where
 l:x.length=d.length
 p:x.Perm d
 b:∀j,Srt (blk w j d) (blk w j x)
theorem d70 (x:List d9) (a w v:Nat):x=x.take a++((x.drop a).take w++((x.drop (a+w)).take v++x.drop (a+w+v))):=by
 rw [←List.drop_drop (i:=v),List.take_append_drop,←List.drop_drop,List.take_append_drop,List.take_append_drop]
theorem step2 {d x:List d9} {w k v n:Nat} (hw:1≤w) (hn:x.length=n) (hl:n≤800) (hd:d.length=n) (ht:∀y∈x,tOK y)
  (h1:∀j,j<k→Srt (blk (2*w) j d) (blk (2*w) j x)) (h2:∀j,2*k≤j→Srt (blk w j d) (blk w j x)) (hk:2*k*w+w<n) (hv:v=min w (n - (2*k*w+w))) {a m b:Int} (ha:a=(2*k*w:Nat)) (hm:m=(2*k*w+w:Nat)) (hb:b=(2*k*w+w+v:Nat)) :
  Ok (F_0 x a m b) fun r=>r.length=n∧r.Perm x∧(∀j,j<k+1→Srt (blk (2*w) j d) (blk (2*w) j r))∧∀j,2*(k+1)≤j→Srt (blk w j d) (blk w j r):=by
 have e:=d70 x (2*k*w) w v
 have lP:(x.take (2*k*w)).length=2*k*w:=by rw [x4];omega
 have lX:((x.drop (2*k*w)).take w).length=w:=by rw [x4,List.length_drop];omega
 have lY:((x.drop (2*k*w+w)).take v).length=v:=by rw [x4,List.length_drop];omega
 have lS:(x.drop (2*k*w+w+v)).length=n - (2*k*w+w+v):=by rw [List.length_drop,hn]
 have bX:blk w (2*k) x=(x.drop (2*k*w)).take w:=rfl
 have bY:blk w (2*k+1) x=(x.drop (2*k*w+w)).take v:=by
  unfold blk
  rw [Nat.succ_mul]
  by_cases c:w≤n - (2*k*w+w)
  ·rw [show v=w by omega]
  ·rw [zP (by rw [List.length_drop];omega),zP (by rw [List.length_drop];omega)]
 have s1:=h2 (2*k) (by omega)
 have s2:=h2 (2*k+1) (by omega)
 rw [bX] at s1
 rw [bY] at s2
 generalize x.take (2*k*w)=P at *
 generalize (x.drop (2*k*w)).take w=X at *
 generalize (x.drop (2*k*w+w)).take v=Y at *
 generalize x.drop (2*k*w+w+v)=S at *
 subst e
 refine (e83 (by omega) s1.s s2.s (by omega) (by omega) ht (by omega) (by omega) (by omega)).mono fun r hr=>?_
 obtain ⟨R,rfl,hR⟩:=hr
 have lR:=hR.len
 rw [xI] at lR
 have kk:k*(2*w)=2*k*w:=by rw [←Nat.mul_assoc,Nat.mul_comm k 2]
 refine ⟨by simp only [xI] at hn ⊢;omega,?_,fun j hj=>?_,fun j hj=>?_⟩
 ·refine List.Perm.append_left P ?_
  rw [←List.append_assoc X]
  exact hR.p.append_right S
 ·by_cases c:j<k
  ·have:=h1 j c
   have hjk:(j+1)*(2*w)≤k*(2*w):=zY _ (by omega)
   rw [Nat.succ_mul] at hjk
   rw [a8x (by omega)] at this
   rw [a8x (P:=P) (by omega)]
   exact this
  ·have:j=k:=by omega
   subst this
   rw [c2r]
   have e2:blk (2*w) j (P++(R++S))=R:=by
    unfold blk
    rw [kk,List.drop_append,List.drop_eq_nil_of_le (by omega),lP,Nat.sub_self,wS,wH]
    by_cases c:v=w
    ·rw [List.take_append_of_le_length (by omega),zP (by omega)]
    ·have:S=[]:=zM.1 (by omega)
     rw [this,wO,zP (by omega)]
   rw [e2]
   exact Srt.tr s1 s2 hR
 ·have:=h2 j (by omega)
  have hjk:(2*(k+1))*w≤j*w:=zY _ hj
  rw [show 2*(k+1)=2*k+1+1 by omega,Nat.succ_mul,Nat.succ_mul] at hjk
  by_cases c:v=w
  ·have e3:P++(X++(Y++S))=(P++(X++Y))++S:=by simp
   have e4:P++(R++S)=(P++R)++S:=by simp
   rw [e3] at this
   rw [e4,d1h (Q:=P++R) (Q':=P++(X++Y)) (by simp only [xI];omega) (by simp only [xI];omega)]
   exact this
  ·simp only [xI] at hn
   rw [a8d (l:=d) (by omega),a8d (l:=P++(R++S)) (by simp only [xI];omega)]
   exact Srt.id (by simp [byT])
theorem phase {d x:List d9} {w n:Nat} (hw:1≤w) (hwl:w≤800) (hl:n≤800) (hd:d.length=n) (ht:∀y∈d,tOK y) (h:Bs w d x) (hlt:w<n) :
  Ok (d6k (n:Int) ((w:Int),x)) (Fl.elim (fun s=>s.1=((2*w:Nat):Int)∧Bs (2*w) d s.2) fun _=>False):=by
 have htx:∀y:List d9,y.Perm d→∀c∈y,tOK c:=fun y hy c hc=>ht c (hy.mem_iff.1 hc)
 unfold d6k
 refine Ok.ite (fun _=>?_) fun c=>by have:=of_decide_eq_false c;simp only at this;omega
 refine Ok.chk (a0i (by simp only;omega) (by simp only;omega)) (Ok.bind (Ok.loop (Q:=fun r:Int×List d9=>∃k:Nat,r.1=((2*k*w:Nat):Int)∧2*k*w≤n∧n<2*k*w+2*w∧r.2.length=n∧r.2.Perm d∧(∀j,j<k→Srt (blk (2*w) j d) (blk (2*w) j r.2))∧∀j,2*k≤j→Srt (blk w j d) (blk w j r.2))
  (fun s=>∃k:Nat,s.1=((2*k*w:Nat):Int)∧s.2.1=((2*k*w+2*w:Nat):Int)∧2*k*w≤n∧s.2.2.length=n∧s.2.2.Perm d∧(∀j,j<k→Srt (blk (2*w) j d) (blk (2*w) j s.2.2))∧∀j,2*k≤j→Srt (blk w j d) (blk w j s.2.2)) (fun s:Int×Int×List d9=>((n:Int)+2*(w:Int) - s.2.1).toNat) (fun s hs=>?_) _ ⟨0,by simp,by simp,by simp,by rw [h.l,hd],h.p,fun j hj=>by omega,fun j _=>h.b j⟩) fun r hr=>?_)
 ·obtain ⟨a,b,y⟩:=s
  obtain ⟨k,e1,e2,e3,e4,e5,e6,e7⟩:=hs
  simp only at e1 e2 e4 e5 e6 e7
  subst e1 e2
  unfold e4x
  refine Ok.ite (fun c=>?_) fun c=>?_
  ·have c:((2*k*w+2*w:Nat):Int)≤n:=by simpa using c
   refine Ok.chk (a0i (by simp only;omega) (by simp only;omega)) (Ok.bind (step2 (d:=d) (w:=w) (k:=k) (v:=w) (n:=n) hw e4 hl hd (htx y e5) e6 e7 (by omega) (by omega) rfl (by simp only;omega) (by simp only;omega)) fun r hr=>?_)
   obtain ⟨r1,r2,r3,r4⟩:=hr
   have kk:2*(k+1)*w=2*k*w+2*w:=by rw [show 2*(k+1)=2*k+1+1 by omega,Nat.succ_mul,Nat.succ_mul];omega
   refine Ok.chk (a0i (by simp only;omega) (by simp only;omega)) (Ok.chk (a0i (by simp only;omega) (by simp only;omega)) (Ok.ret ⟨⟨k+1,by rw [kk],by rw [kk];simp only;omega,by omega,r1,r2.trans e5,r3,r4⟩,by simp only;omega⟩))
  ·have c:¬((2*k*w+2*w:Nat):Int)≤n:=by simpa using c
   exact Ok.ret ⟨k,rfl,e3,by omega,e4,e5,e6,e7⟩
 ·obtain ⟨k,e1,e2,e3,e4,e5,e6,e7⟩:=hr
  obtain ⟨a,y⟩:=r
  simp only at e1 e4 e5 e6 e7
  subst e1
  have kk:∀j,k+1≤j→2*k*w+2*w≤j*(2*w):=fun j hj=>by
   have:=zY (2*w) hj
   rw [Nat.succ_mul,←Nat.mul_assoc k,Nat.mul_comm k 2] at this
   exact this
  have fin:∀z:List d9,z.length=n→∀j,k+1≤j→Srt (blk (2*w) j d) (blk (2*w) j z):=fun z hz j hj=>by
   have:=kk j hj
   rw [a8d (l:=d) (by omega),a8d (l:=z) (by omega)]
   exact Srt.id (by simp [byT])
  refine Ok.jn (P:=fun z=>Bs (2*w) d z) (Ok.chk (a0i (by simp only;omega) (by simp only;omega)) (Ok.ite (fun c=>?_) fun c=>?_)) fun z hz=>Ok.chk (a0i (by simp only;omega) (by simp only;omega)) (Ok.ret ⟨by simp only;omega,hz⟩)
  ·have c:((2*k*w:Nat):Int)+w<n:=by simpa using c
   refine Ok.bind (step2 (d:=d) (w:=w) (k:=k) (v:=n - (2*k*w+w)) (n:=n) hw e4 hl hd (htx y e5) e6 e7 (by omega) (by omega) rfl (by simp only;omega) (by omega)) fun r hr=>Ok.ret ?_
   obtain ⟨r1,r2,r3,r4⟩:=hr
   exact ⟨by rw [r1,hd],r2.trans e5,fun j=>by
    by_cases q:j<k+1
    ·exact r3 j q
    ·exact fin r r1 j (by omega)⟩
  ·have c:¬((2*k*w:Nat):Int)+w<n:=by simpa using c
   refine Ok.ret ⟨by rw [e4,hd],e5,fun j=>?_⟩
   by_cases q:j<k
   ·exact e6 j q
   ·by_cases q2:j=k
    ·subst q2
     have q3:(2*j+1)*w=2*j*w+w:=Nat.succ_mul ..
     have:=e7 (2*j) (by omega)
     show Srt (blk (2*w) j d) (blk (2*w) j y)
     rw [c2r,c2r,a8d (w:=w) (j:=2*j+1) (l:=d) (by omega),a8d (w:=w) (j:=2*j+1) (l:=y) (by omega),wO,wO]
     exact this
    ·exact fin y e4 j (by omega)
theorem Bs.all {w:Nat} {d x:List d9} (h:Bs w d x) (hw:d.length≤w):Srt d x:=by
 have:=h.b 0
 have l:=h.l
 unfold blk at this
 rw [Nat.zero_mul,wS,wS,zP hw,zP (by omega)] at this
 exact this
theorem d1s {d:List d9} (hl:d.length≤400) (ht:∀x∈d,tOK x):Ok (F_b d) (Srt d):=by
 unfold F_b F_5
 have htx:∀y:List d9,y.Perm d→∀c∈y,tOK c:=fun y hy c hc=>ht c (hy.mem_iff.1 hc)
 refine Ok.bind (P:=Srt d) ?_ fun y hy=>Ok.ret hy
 refine Ok.bind (Ok.loop (Q:=fun r:Int×List d9=>∃k:Nat,r.1=((k*20:Nat):Int)∧k*20≤d.length∧d.length<k*20+20∧r.2.length=d.length∧r.2.Perm d∧(∀j,j<k→Srt (blk 20 j d) (blk 20 j r.2))∧r.2.drop (k*20)=d.drop (k*20))
  (fun s=>∃k:Nat,s.1=((k*20:Nat):Int)∧s.2.1=((k*20+20:Nat):Int)∧k*20≤d.length∧s.2.2.length=d.length∧s.2.2.Perm d∧(∀j,j<k→Srt (blk 20 j d) (blk 20 j s.2.2))∧s.2.2.drop (k*20)=d.drop (k*20)) (fun s:Int×Int×List d9=>((d.length:Int)+20 - s.2.1).toNat) (fun s hs=>?_) _ ⟨0,by simp,by simp,by simp,rfl,List.Perm.refl _,fun j hj=>by omega,rfl⟩) fun r hr=>?_
 ·obtain ⟨a,b,y⟩:=s
  obtain ⟨k,e1,e2,e3,e4,e5,e6,e7⟩:=hs
  simp only at e1 e2 e4 e5 e6 e7
  subst e1 e2
  unfold F_s
  refine Ok.ite (fun c=>?_) fun c=>?_
  ·have c:((k*20+20:Nat):Int)≤d.length:=by simpa using c
   have e:=d70 y (k*20) 20 0
   simp only [List.take_zero,wH,vC] at e
   have lP:(y.take (k*20)).length=k*20:=by rw [x4];omega
   have lX:((y.drop (k*20)).take 20).length=20:=by rw [x4,List.length_drop];omega
   have eS:y.drop (k*20+20)=d.drop (k*20+20):=by rw [←List.drop_drop,←List.drop_drop,e7]
   have eX:(y.drop (k*20)).take 20=blk 20 k d:=by unfold blk;rw [e7]
   have lS:(y.drop (k*20+20)).length=d.length - (k*20+20):=by rw [List.length_drop,e4]
   have hty:=htx y e5
   generalize y.take (k*20)=P at *
   generalize (y.drop (k*20)).take 20=X at *
   generalize y.drop (k*20+20)=S at *
   subst e
   refine Ok.bind (g37 (P:=P) (Q:=X) (S:=S) (by omega) (fun c hc=>hty c (by simp [hc])) (by simp only;omega) (by simp only;omega)) fun r hr=>?_
   obtain ⟨R,rfl,hR⟩:=hr
   have lR:=hR.len
   refine Ok.chk (a0i (by simp only;omega) (by simp only;omega)) (Ok.ret ⟨⟨k+1,by simp only;omega,by simp only;omega,by omega,by simp only [xI] at e4 ⊢;omega,(List.Perm.append_left P (hR.p.append_right S)).trans e5,fun j hj=>?_,?_⟩,by simp only;omega⟩)
   ·by_cases q:j<k
    ·have:=e6 j q
     rw [a8x (P:=P) (by omega)] at this
     rw [a8x (P:=P) (by omega)]
     exact this
    ·have:j=k:=by omega
     subst this
     rw [←eX]
     unfold blk
     rw [List.drop_append,List.drop_eq_nil_of_le (by omega),lP,Nat.sub_self,wS,wH,List.take_append_of_le_length (by omega),zP (by omega)]
     exact hR
   ·show List.drop ((k+1)*20) (P++(R++S))=_
    rw [←List.append_assoc,show (k+1)*20=(P++R).length by simp only [xI];omega,List.drop_left,eS]
    congr 1;simp only [xI];omega
  ·have c:¬((k*20+20:Nat):Int)≤d.length:=by simpa using c
   exact Ok.ret ⟨k,rfl,e3,by omega,e4,e5,e6,e7⟩
 ·obtain ⟨k,e1,e2,e3,e4,e5,e6,e7⟩:=hr
  obtain ⟨a,y⟩:=r
  simp only at e1 e4 e5 e6 e7
  subst e1
  have e:=(List.take_append_drop (k*20) y).symm
  have lP:(y.take (k*20)).length=k*20:=by rw [x4];omega
  have lX:(y.drop (k*20)).length=d.length - k*20:=by rw [List.length_drop,e4]
  have hty:=htx y e5
  generalize y.take (k*20)=P at *
  generalize y.drop (k*20)=X at *
  subst e
  have:=g37 (P:=P) (Q:=X) (S:=[]) (a:=((k*20:Nat):Int)) (b:=(d.length:Int)) (by simp;omega) (fun c hc=>hty c (by simp [hc])) (by omega) (by omega)
  rw [wO] at this
  refine Ok.bind this fun r hr=>?_
  obtain ⟨R,rfl,hR⟩:=hr
  have lR:=hR.len
  rw [wO]
  have hB:Bs 20 d (P++R):=⟨by simp only [xI] at e4 ⊢;omega,(List.Perm.append_left P hR.p).trans e5,fun j=>by
   by_cases q:j<k
   ·have:=e6 j q
    rw [a8x (P:=P) (by omega)] at this
    rw [a8x (P:=P) (by omega)]
    exact this
   ·by_cases q2:j=k
    ·subst q2
     have e8:blk 20 j d=X:=by unfold blk;rw [←e7,zP (by omega)]
     have e9:blk 20 j (P++R)=R:=by
      unfold blk
      rw [List.drop_append,List.drop_eq_nil_of_le (by omega),lP,Nat.sub_self,wS,wH,zP (by omega)]
     rw [e8,e9];exact hR
    ·rw [a8d (l:=d) (by omega),a8d (l:=P++R) (by simp only [xI];omega)]
     exact Srt.id (by simp [byT])⟩
  refine Ok.bind (Ok.loop (Q:=Srt d) (fun s=>∃w:Nat,1≤w∧w≤800∧s.1=(w:Int)∧Bs w d s.2) (fun s:Int×List d9=>((d.length:Int) - s.1).toNat) (fun s hs=>?_) _ ⟨20,by omega,by omega,rfl,hB⟩) fun r hr=>Ok.ret hr
  obtain ⟨a,z⟩:=s
  obtain ⟨w,w1,w2,w3,w4⟩:=hs
  simp only at w3 w4
  subst w3
  by_cases c:w<d.length
  ·refine (phase w1 w2 (by omega) rfl ht w4 c).mono fun o ho=>?_
   cases o with
   | nx s=>exact ⟨⟨2*w,by omega,by omega,ho.1,ho.2⟩,by have:=ho.1;simp only [this];omega⟩
   | ex r=>exact ho.elim
  ·unfold d6k
   rw [wE (by simp only;omega)]
   exact Ok.ret (w4.all (by omega))
theorem c7v {a b c:List UInt8} (h:a≤b) (k:b≤c):a≤c:=List.le_trans h k
theorem c7w (a b:List UInt8):a≤b∨b≤a:=List.le_total a b
theorem d2p {a b:List UInt8} (h:a≤b) (k:b≤a):a=b:=List.le_antisymm h k
theorem c0f (s:List Str):s.length≤(Go.Lib.compact (s.mergeSort fun x y=>decide (x≤y))).length↔s.Nodup:=by
 have hp:=List.mergeSort_perm s fun x y=>decide (x≤y)
 have hs:=List.pairwise_mergeSort (le:=fun x y:Str=>decide (x≤y)) (fun a b c h1 h2=>wR (c7v (of_decide_eq_true h1) (of_decide_eq_true h2))) (fun a b=>by simpa using c7w a b) s
 rw [←hp.nodup_iff,←hp.length_eq]
 generalize (s.mergeSort fun x y=>decide (x≤y))=l at hs
 have h1:(l.length≤(Go.Lib.compact l).length)↔∀j,j<l.length→Go.Lib.keeps l.toArray j=true:=by
  constructor
  ·intro h
   unfold Go.Lib.compact Go.Lib.compactUpTo at h
   rw [wL] at h
   have h2:=List.length_filter_le (Go.Lib.keeps l.toArray) (List.range l.length)
   rw [List.length_range] at h2
   have h3:((List.range l.length).filter (Go.Lib.keeps l.toArray)).length=(List.range l.length).length:=by rw [List.length_range];omega
   have h4:=List.length_filter_eq_length_iff.1 h3
   exact fun j hj=>h4 j (List.mem_range.2 hj)
  ·intro h
   rw [Go.Lib.compact_all l h];exact vI _
 have get:∀j (hj:j<l.length),l.toArray[j]! = l[j]:=fun j hj=>by simp [hj]
 rw [h1,List.nodup_iff_pairwise_ne,List.pairwise_iff_getElem]
 have hs':=List.pairwise_iff_getElem.1 hs
 constructor
 ·intro h i j hi hj hij e
  have hk:=h j hj
  simp only [Go.Lib.keeps,xN] at hk
  have hk:=hk.resolve_left (by omega)
  rw [get j hj,get (j - 1) (by omega)] at hk
  by_cases q:i=j - 1
  ·subst q;exact hk e.symm
  ·have a1:=of_decide_eq_true (hs' i (j - 1) hi (by omega) (by omega))
   have a2:=of_decide_eq_true (hs' (j - 1) j (by omega) hj (by omega))
   rw [←e] at a2
   exact hk (by rw [←e];exact d2p a1 a2)
 ·intro h j hj
  simp only [Go.Lib.keeps,xN]
  by_cases q:j=0
  ·exact .inl q
  ·rw [get j hj,get (j - 1) (by omega)]
   exact .inr fun e=>h (j - 1) j (by omega) hj (by omega) e.symm
def c66 (v:Str):List Str→Int→Option Int
 | [],_=>none
 | a::r,k=>bif decide (v=a) then some k else c66 v r (k+1)
def b8m (s:List Str) (v:Str):Int:=(c66 v s 0).getD (-1)
theorem c45 (v:Str):∀(s:List Str) (k:Int),forL (f7g v) s k ()=some (match c66 v s k with|some j=>.ex j|none=>.nx ())
 | [],_=>rfl
 | a::r,k=>by
  simp only [forL,f7g,c66]
  cases decide (v=a) with
  | true=>rfl
  | false=>exact c45 v r (k+1)
theorem b3w (s:List Str) (v:Str):d2c s v=some (b8m s v):=by
 unfold d2c b8m
 rw [c45]
 cases c66 v s 0<;>rfl
theorem d04 (v:Str):∀(s:List Str) (k:Int),v∈s→∃i:Nat,c66 v s k=some (k+i)∧i<s.length∧s.getD i []=v
 | [],_,h=>by simp at h
 | a::r,k,h=>by
  by_cases e:v=a
  ·exact ⟨0,by simp [c66,e],by simp,by simp [e]⟩
  ·obtain ⟨i,h1,h2,h3⟩:=d04 v r (k+1) ((wV.1 h).resolve_left e)
   exact ⟨i+1,by simp only [c66,wE e,vL,h1];congr 1;omega,by simp;omega,by simpa using h3⟩
theorem c4c (v:Str):∀(s:List Str) (k:Int),v∉s→c66 v s k=none
 | [],_,_=>rfl
 | a::r,k,h=>by
  have e:v≠a:=fun e=>h (by simp [e])
  simp only [c66,wE e,vL]
  exact c4c v r (k+1) fun h'=>h (xB _ h')
theorem d05 {s:List Str} {v:Str} (h:v∈s):∃i:Nat,b8m s v=(i:Int)∧i<s.length∧s.getD i []=v:=by
 obtain ⟨i,h1,h2⟩:=d04 v s 0 h
 exact ⟨i,by unfold b8m;rw [h1];simp,h2⟩
theorem c4d {s:List Str} {v:Str} (h:v∉s):b8m s v=-1:=by unfold b8m;rw [c4c v s 0 h];rfl
theorem c2k (s:List Str) (v:Str):f3u s v=some (decide (v∈s)):=by
 unfold f3u
 rw [b3w,xY]
 by_cases h:v∈s
 ·obtain ⟨i,e,_⟩:=d05 h
  rw [e,wR h,wR (by omega)]
 ·rw [c4d h,wE h];rfl
def isN (c:d9):Bool:=decide (c.Kind=1)||decide (c.Kind=2)
def nms (l:List d9):List Str:=(l.filter isN).map (·.Name)
def kds (l:List d9):List Int:=(l.filter isN).map (·.Kind)
theorem b3j:∀(l:List d9) (k:Int) (a:List Str) (b:List Int),a.length+l.length≤100000→b.length+l.length≤100000→foldL e6e l k (a,b)=some (a++nms l,b++kds l)
 | [],_,a,b,_,_=>by simp [foldL,nms,kds]
 | c::r,k,a,b,h1,h2=>by
  simp only [x5] at h1 h2
  have r1:room (b.length+1) 8=true:=a0z.2 (by omega)
  have r2:room (a.length+1) 16=true:=a0z.2 (by omega)
  by_cases e1:c.Kind=1
  ·simp only [foldL,e6e,wR e1,vN,x5,wK,w8]
   rw [o5 r1,o5 r2,xY,b3j r _ _ _ (by simp;omega) (by simp;omega)]
   simp [nms,kds,isN,e1]
  ·by_cases e2:c.Kind=2
   ·simp only [foldL,e6e,wE e1,wR e2,vN,vL,x5,wK,w8]
    rw [o5 r1,o5 r2,xY,b3j r _ _ _ (by simp;omega) (by simp;omega)]
    simp [nms,kds,isN,e2]
   ·simp only [foldL,e6e,wE e1,wE e2,vL,xY]
    rw [b3j r _ _ _ (by omega) (by omega)]
    simp [nms,kds,isN,e1,e2]
theorem b9m {l:List d9} (h:l.length≤1000):e6n l=some (kds l,nms l):=by
 unfold e6n
 rw [b3j l 0 [] [] (by simp;omega) (by simp;omega)]
 simp
def f2a (s:List Str):Nat:=(Go.Lib.compact (s.mergeSort fun x y=>decide (x≤y))).length
theorem c4r:∀(xs acc:List Str) (k:Int),acc.length+xs.length≤1000000→forL f6m xs k acc=some (.nx (acc++xs))
 | [],acc,k,_=>by simp [forL]
 | x::r,acc,k,h=>by
  simp only [x5] at h
  simp only [forL,f6m]
  rw [o5 (a0z.2 (by simp only [x5,wK];omega))]
  simp only [xY,Fl.elim]
  rw [c4r r _ _ (by simp;omega)]
  simp
theorem c7t {s:List Str} (h:s.length≤1000):e6u s=some (s.mergeSort fun x y=>decide (x≤y)):=by
 unfold e6u f6q f7q
 rw [c4r s [] 0 (by simp;omega)]
 simp only [xY,Fl.elim,wH]
 unfold c1f
 rw [o5 (wR (by omega))];rfl
def a7w (ns:List Str) (c:d9):Bool:=(!decide (c.Name=[])&&!decide (c.Name∈ns))||(!decide (c.Other=[])&&!decide (c.Other∈ns))
theorem e80 (s:Str) (ns:List Str):e69 s ns=some (!decide (s=[])&&!decide (s∈ns)):=by
 unfold e69
 rw [c2k]
 cases decide (s=[])<;>simp [jn]
theorem e02 (c:d9) (ns:List Str):f3t c ns=some (a7w ns c):=by
 unfold f3t a7w
 rw [e80,e80]
 simp only [xY,jn]
 cases (!decide (c.Name=[])&&!decide (c.Name∈ns))<;>simp
theorem c96 (ns:List Str):∀(l:List d9) (k:Int),0≤k→∃o,forL (f7f ns) l k ()=some o∧o.elim (fun _=>l.any (a7w ns)=false) (fun j=>0≤j∧l.any (a7w ns)=true)
 | [],_,_=>⟨_,rfl,rfl⟩
 | c::r,k,h=>by
  simp only [forL,f7f,e02,xY,List.any_cons]
  cases a7w ns c with
  | true=>exact ⟨.ex k,rfl,h,rfl⟩
  | false =>
   obtain ⟨o,h1,h2⟩:=c96 ns r (k+1) (by omega)
   exact ⟨o,h1,by simpa using h2⟩
theorem c5w (l:List d9) (ns:List Str):e6a l ns=some (l.any (a7w ns)):=by
 unfold e6a f7l
 obtain ⟨o,h1,h2⟩:=c96 ns l 0 (by omega)
 rw [h1,xY]
 cases o with
 | nx u =>
  have h2:l.any (a7w ns)=false:=h2
  rw [h2];rfl
 | ex j =>
  obtain ⟨h3,h4⟩:=(h2:0≤j∧l.any (a7w ns)=true)
  rw [h4]
  simp [Fl.elim,h3]
def isD (c:d9):Bool:=decide (c.Kind=3)||decide (c.Kind=4)
def isA (c:d9):Bool:=decide (5≤c.Kind)&&decide (c.Kind≤9)
def e84 (ns:List Str) (c:d9):a01:=⟨c.Time,(1+c.Kind) - 3,b8m ns c.Name,b8m ns c.Other⟩
def e3q (ns:List Str) (c:d9):o6 :=
 bif decide (c.Kind≤6) then ⟨c.Time,(1+c.Kind) - 5,c.A,b8m ns c.Name,0,0,0⟩ else
 bif decide (c.Kind=7) then ⟨c.Time,3,c.A,0,c.B,0,0⟩ else
 bif decide (c.Kind=8) then ⟨c.Time,5,c.B,0,0,c.A,0⟩ else ⟨c.Time,7,c.B,0,0,0,c.A⟩
def evD (ns:List Str) (l:List d9):List a01:=(l.filter isD).map (e84 ns)
def evA (ns:List Str) (l:List d9):List o6:=(l.filter isA).map (e3q ns)
theorem d5a {c:d9} {ns:List Str} {d:l8} {a:l9} (hk:1≤c.Kind∧c.Kind≤11) (h1:d.Events.length≤1000) (h2:a.Events.length≤1000) :
  e6v c ns d a=some (⟨d.Kinds,d.Events++evD ns [c]⟩,⟨a.Places,a.Events++evA ns [c]⟩):=by
 have r1:room (d.Events.length+1) 32=true:=a0z.2 (by omega)
 have r2:room (a.Events.length+1) 56=true:=a0z.2 (by omega)
 have i1:a0j (1+c.Kind)=true:=a0i (by omega) (by omega)
 have i2:a0j ((1+c.Kind) - 3)=true:=a0i (by omega) (by omega)
 have i3:a0j ((1+c.Kind) - 5)=true:=a0i (by omega) (by omega)
 unfold e6v
 rw [b3w,b3w]
 simp only [xY,x5,wK,w8,o5 r1,o5 r2,o5 i1,o5 i2,o5 i3]
 rcases kinds hk.1 hk.2 with h|h|h|h|h|h|h|h|h|h|h<;>simp [jn,h,evD,evA,isD,isA,e84,e3q]
theorem c9j {y:List Int×List Str}:∀(r:List d9) (k:Int) (p:Int) (ae:List o6) (ks:List Int) (de:List a01),(∀c∈r,1≤c.Kind∧c.Kind≤11)→ae.length+r.length≤1000→de.length+r.length≤1000 →
  foldL (e6t y) r k (p,ae,ks,de)=some (p,ae++evA y.2 r,ks,de++evD y.2 r)
 | [],_,p,ae,ks,de,_,_,_=>by simp [foldL,evA,evD]
 | c::r,k,p,ae,ks,de,h,h1,h2=>by
  simp only [x5] at h1 h2
  have la:(evA y.2 [c]).length≤1:=by unfold evA;rw [wL];exact List.length_filter_le _ _
  have ld:(evD y.2 [c]).length≤1:=by unfold evD;rw [wL];exact List.length_filter_le _ _
  simp only [foldL,e6t]
  rw [d5a (h c (by simp)) (by simp only;omega) (by simp only;omega)]
  simp only [xY]
  rw [c9j r (k+1) p _ ks _ (fun x hx=>h x (xB _ hx)) (by rw [xI];omega) (by rw [xI];omega)]
  have ea:evA y.2 (c::r)=evA y.2 [c]++evA y.2 r:=by unfold evA;rw [←List.map_append,←List.filter_append];rfl
  have ed:evD y.2 (c::r)=evD y.2 [c]++evD y.2 r:=by unfold evD;rw [←List.map_append,←List.filter_append];rfl
  rw [ea,ed,List.append_assoc,List.append_assoc]
theorem d9y (x:List d9):(nms x).length≤x.length:=by unfold nms;rw [wL];exact List.length_filter_le _ _
theorem d1n (ns:List Str) (c:d9):(e3q ns c).Time=c.Time:=by
 unfold e3q
 cases decide (c.Kind≤6)<;>cases decide (c.Kind=7)<;>cases decide (c.Kind=8)<;>rfl
end Go.Ab