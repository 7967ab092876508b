/- Numbers and words of a line (for chapter 43). -/
import Derived.Test.YtbmjlaknnpmgpaaGreatDoorAbMach
import Derived.Lib.Join
import Derived.Test.YtbmjlaknnpmgpaaGreatDoorLI
import Derived.Test.YtbmjlaknnpmgpaaGreatDoorPA
set_option linter.all false
namespace Go.Ab
open Go.Proofs
theorem a6w (u:Nat):∀c∈Lib.decDigits u,48≤c.toNat∧c.toNat≤57:=by
 induction u using Nat.strongRecOn with
 | _ u ih =>
  intro c hc
  rw [Lib.decDigits] at hc
  split at hc
  ·rename_i h
   simp at hc;subst hc
   simp;omega
  ·rcases wN.1 hc with hc|hc
   ·exact ih (u / 10) (by omega) c hc
   ·simp at hc;subst hc
    simp;omega
theorem c6e (u:Nat) (h:u≤18446744073709551615) (l:Str):Lib.parseUint10 0 (Lib.decDigits u++l)=Lib.parseUint10 u l:=by
 induction u using Nat.strongRecOn generalizing l with
 | _ u ih =>
  rw [Lib.decDigits]
  split
  ·rename_i hu
   have e:(UInt8.ofNat (48+u)).toNat=48+u:=by simp;omega
   simp only [wE,wL,Lib.parseUint10,e]
   rw [if_pos (by omega),if_neg (by omega),if_neg (by omega)]
   congr 1;omega
  ·rename_i hu
   rw [List.append_assoc,ih (u / 10) (by omega) (by omega)]
   have e:(UInt8.ofNat (48+u % 10)).toNat=48+u % 10:=by simp;omega
   simp only [wE,wL,Lib.parseUint10,e]
   rw [if_pos (by omega),if_neg (by omega),if_neg (by omega)]
   congr 1;omega
theorem d4f (u:Nat):Lib.decDigits u≠[]:=by rw [Lib.decDigits];split<;>simp
theorem b9o (u:Nat) (h:u≤18446744073709551615):Lib.parseMag (Lib.decDigits u)=.ok u:=by
 have hp:=c6e u h []
 rw [wS] at hp
 unfold Lib.parseMag
 rw [if_neg (d4f u),hp];rfl
theorem b9z {u:Nat} (hu:u<18446744073709551616):(Lib.decDigits u).length≤20:=by
 rw [Lib.decDigits_length]
 by_cases h:1≤u
 ·have:=Lib.numDigits_eq u h hu;split at this<;>omega
 ·obtain rfl:u=0:=by omega
  exact zQ (by kernel_rfl)
theorem b86 {n:Int} (h0:-9223372036854775808≤n) (h1:n≤9223372036854775807):a4t (Lib.itoa n)=some (n,true):=by
 have key:Lib.atoiAll (Lib.itoa n)=.ok n∧(Lib.itoa n).length≤21:=by
  refine ⟨?_,Lib.itoa_length_le n h0 h1⟩
  by_cases c:0≤n
  ·obtain ⟨u,rfl⟩:=Int.eq_ofNat_of_zero_le c
   rw [Lib.itoa_nonneg]
   have hb:=a6w u
   cases hd:Lib.decDigits u with
   | nil=>exact absurd hd (d4f u)
   | cons c r =>
    have h1:=hb c (by rw [hd];simp)
    rw [Lib.atoiAll_plain c r (by omega) (by omega),←hd,b9o u (by omega)]
    simp only [Lib.signless]
    rw [if_neg (by omega)]
  ·obtain ⟨u,hu⟩:∃u:Nat,n=-(u:Int):=⟨(-n).toNat,by omega⟩
   subst hu
   rw [Lib.itoa_neg u (by omega),Lib.atoiAll_minus,b9o u (by omega)]
   simp only [Lib.signed]
   rw [if_neg (by omega)]
 refine Ok.eq (Ok.chk (wV (by omega)) (Ok.ret ?_))
 unfold a1f a1n
 rw [key.1]
theorem a4z (sep a:Str) (l:List Str):Lib.joinTail sep (a::l)=sep++a++Lib.joinTail sep l:=by simp [Lib.joinTail]
theorem c0k {b:UInt8}:∀(l:List Str) (a:Str),(∀w∈a::l,∀c∈w,c≠b)→spl b (Lib.join (a::l) [b])=a::l
 | [],a,h=>by
  rw [Lib.join_cons]
  simpa [Lib.joinTail] using b1f (h a (by simp))
 | x::l,a,h=>by
  have ih:=c0k (b:=b) l x fun w hw=>h w (xD _ hw)
  rw [Lib.join_cons] at ih
  rw [Lib.join_cons,a4z]
  have e:a++([b]++x++Lib.joinTail [b] l)=a++b::(x++Lib.joinTail [b] l):=by simp
  rw [e,b90 _ (h a (by simp)),ih]
set_option maxRecDepth 20000
structure SV (m:l6):Prop where
 f0:0≤m.Fingerprint
 f1:m.Fingerprint≤18446744073709551615
 a:a0p m.Spots=true
 b:a0p m.Readers=true
 c:a0p m.Since=true
 d:a0p m.Severity.Level=true
 e:a0p m.Severity.Worth=true
 f:a0p m.Severity.Audience=true
 g:a0p m.Severity.Score=true
def ch (b:Bool) (y n:Str):Str:=bif b then y else n
abbrev c4o:Str:=[112,117,98,108,105,99]
abbrev c9j:Str:=[105,110,115,105,100,101]
abbrev c4x:Str:=[114,111,116,97,116,101,100]
abbrev d3n:Str:=[118,97,108,105,100]
abbrev b1o:Str:=[100,101,97,100]
abbrev d3o:Str:=[97,108,105,118,101]
def wds (m:l6):List Str:=[[108,101,97,107],Lib.decDigits m.Fingerprint.toNat,[115,112,111,116,115],Lib.itoa m.Spots,ch m.Public c4o c9j,
 [114,101,97,100,101,114,115],Lib.itoa m.Readers,[115,105,110,99,101],Lib.itoa m.Since,[108,101,118,101,108],Lib.itoa m.Severity.Level,[119,111,114,116,104],Lib.itoa m.Severity.Worth,
 [97,117,100,105,101,110,99,101],Lib.itoa m.Severity.Audience,[115,99,111,114,101],Lib.itoa m.Severity.Score,ch m.Rotated c4x d3n,ch m.Dead b1o d3o]
def ltx (m:l6):Str:=Lib.join (wds m) [32]
theorem b3h (b:Bool) (y n:Str):e1i b y n=some (ch b y n):=by cases b<;>rfl
theorem d6j (b:Bool) (y n:Str):e1d b y n=some (ch b y n):=by cases b<;>rfl
theorem d48 {n:Int} (h0:0≤n) (h1:n≤18446744073709551615):d8u n 10=some (Lib.decDigits n.toNat):=by
 unfold d8u
 exact o8 (by simp;omega)
theorem a5a {n:Int} (h:a0p n=true):a8n n=some (Lib.itoa n):=o8 h
theorem a1l {n:Int} (h:a0p n=true):(Lib.itoa n).length≤21:=Lib.itoa_length_le n (a1q.1 h).1 (a1q.1 h).2
theorem b4y {b:Bool} {y n:Str} (h1:y.length≤7) (h2:n.length≤7):(ch b y n).length≤7:=by cases b<;>assumption
theorem b0l (sep:Str):Lib.joinTail sep []=[]:=rfl
theorem c1p {n:Nat}:∀(l:List Str) (a:Str),(∀w∈a::l,w.length≤n)→(Lib.join (a::l) [32]).length≤(n+1)*(l.length+1)
 | [],a,h=>by
  have:=h a (by simp)
  rw [Lib.join_cons,b0l];simp;omega
 | x::l,a,h=>by
  have ih:=c1p l x fun w hw=>h w (xD _ hw)
  have:=h a (by simp)
  rw [Lib.join_cons] at ih
  rw [Lib.join_cons,a4z,xK,xK,xK,show (x::l).length+1=(l.length+1)+1 from rfl,Nat.mul_add (n+1) (l.length+1) 1]
  rw [xK] at ih
  simp only [wC,wO]
  omega
theorem d52 {m:l6} (h:SV m):∀w∈wds m,w.length≤21:=by
 have d:=b9z (u:=m.Fingerprint.toNat) (by have:=h.f1;omega)
 have a1:=a1l h.a;have a2:=a1l h.b;have a3:=a1l h.c;have a4:=a1l h.d;have a5:=a1l h.e;have a6:=a1l h.f;have a7:=a1l h.g
 have c1:=b4y (b:=m.Public) (y:=c4o) (n:=c9j) (by decide) (by decide)
 have c2:=b4y (b:=m.Rotated) (y:=c4x) (n:=d3n) (by decide) (by decide)
 have c3:=b4y (b:=m.Dead) (y:=b1o) (n:=d3o) (by decide) (by decide)
 have lit:∀{l:Str},l.length≤8→l.length≤21:=fun h=>vD h (by decide)
 unfold wds
 simp only [List.forall_mem_cons]
 exact ⟨lit (by decide),vD d (by decide),lit (by decide),a1,vD c1 (by decide),lit (by decide),a2,lit (by decide),a3,lit (by decide),a4,lit (by decide),a5,lit (by decide),a6,lit (by decide),a7,vD c2 (by decide),vD c3 (by decide),fun _ h=>by cases h⟩
theorem d86 {m:l6} (h:SV m):(ltx m).length≤418:=c1p (n:=21) _ _ (d52 h)
theorem d3v {n:Nat} (h:n≤100):room n 16=true:=a6o.2 (by omega)
theorem c57 {m:l6} (h:SV m):F_d m=some (ltx m):=by
 have hl:=d86 h
 have ej:d1n (wds m) [32]=some (ltx m):=by
  unfold d1n c77
  exact o8 (by simp only [wG,xO];exact ⟨by simp [wds],by show (ltx m).length≤_;omega⟩)
 refine Ok.eq ?_
 unfold F_d
 refine Ok.bind (Ok.of (d48 h.f0 h.f1) rfl) fun y e=>?_
 subst e
 refine Ok.bind (Ok.of (a5a h.a) rfl) fun y e=>?_
 subst e
 refine Ok.bind (Ok.of (b3h _ _ _) rfl) fun y e=>?_
 subst e
 have L:∀(k:Int) (a:a4e) (x:List Str),a0p a.n_=true→x.length≤40→f7p k a x=some (x++[a.kK,Lib.itoa a.n_]):=fun k a x h1 h2=>by
  unfold f7p
  rw [a5a h1,xZ,o8 (d3v (by simp;omega))]
 have hb:=h.b;have hc:=h.c;have hd:=h.d;have he:=h.e;have hf:=h.f;have hg:=h.g
 refine Ok.bind (P:=fun x=>x=[[108,101,97,107],Lib.decDigits m.Fingerprint.toNat,[115,112,111,116,115],Lib.itoa m.Spots,ch m.Public c4o c9j,
  [114,101,97,100,101,114,115],Lib.itoa m.Readers,[115,105,110,99,101],Lib.itoa m.Since,[108,101,118,101,108],Lib.itoa m.Severity.Level,[119,111,114,116,104],Lib.itoa m.Severity.Worth,
  [97,117,100,105,101,110,99,101],Lib.itoa m.Severity.Audience,[115,99,111,114,101],Lib.itoa m.Severity.Score]) ?_ fun y e=>?_
 ·simp only [a0d]
  rw [L _ _ _ hb (by simp)];simp only [xZ]
  rw [L _ _ _ hc (by simp)];simp only [xZ]
  rw [L _ _ _ hd (by simp)];simp only [xZ]
  rw [L _ _ _ he (by simp)];simp only [xZ]
  rw [L _ _ _ hf (by simp)];simp only [xZ]
  rw [L _ _ _ hg (by simp)];simp only [xZ]
  exact Ok.ret rfl
 ·subst e
  refine Ok.bind (Ok.of (b3h _ _ _) rfl) fun y e=>?_
  subst e
  refine Ok.bind (Ok.of (b3h _ _ _) rfl) fun y e=>?_
  subst e
  refine Ok.chk (d3v (by simp)) (Ok.bind (Ok.of ej rfl) fun y e=>Ok.ret e.symm)
theorem f8q {n:Nat} (h:n≤1000):b09 n=true:=c0j.2 (by omega)
theorem e2p {m:l6} (h:SV m):f0v m=some (ltx m):=by
 have d:=b9z (u:=m.Fingerprint.toNat) (by have:=h.f1;omega)
 have a1:=a1l h.a;have a2:=a1l h.b;have a3:=a1l h.c;have a4:=a1l h.d;have a5:=a1l h.e;have a6:=a1l h.f;have a7:=a1l h.g
 have c1:=b4y (b:=m.Public) (y:=c4o) (n:=c9j) (by decide) (by decide)
 have c2:=b4y (b:=m.Rotated) (y:=c4x) (n:=d3n) (by decide) (by decide)
 have c3:=b4y (b:=m.Dead) (y:=b1o) (n:=d3o) (by decide) (by decide)
 have ef:=d48 h.f0 h.f1
 have i1:=a5a h.a;have i2:=a5a h.b;have i3:=a5a h.c;have i4:=a5a h.d;have i5:=a5a h.e;have i6:=a5a h.f;have i7:=a5a h.g
 have el:ltx m=Lib.join (wds m) [32]:=rfl
 simp only [wds,Lib.join_cons,a4z,b0l,c4o,c9j,c4x,d3n,b1o,d3o] at el
 generalize Lib.decDigits m.Fingerprint.toNat=D at *
 generalize Lib.itoa m.Spots=A1 at *
 generalize Lib.itoa m.Readers=A2 at *
 generalize Lib.itoa m.Since=A3 at *
 generalize Lib.itoa m.Severity.Level=A4 at *
 generalize Lib.itoa m.Severity.Worth=A5 at *
 generalize Lib.itoa m.Severity.Audience=A6 at *
 generalize Lib.itoa m.Severity.Score=A7 at *
 simp only [c4o,c9j,c4x,d3n,b1o,d3o] at c1 c2 c3
 refine Ok.eq ?_
 unfold f0v
 repeat' (first
 |(refine Ok.chk (f8q (by simp only [xK,wC,wO];omega)) ?_)
 |(refine Ok.bind (Ok.of ef rfl) fun y e=>?_;subst e)
 |(refine Ok.bind (Ok.of i1 rfl) fun y e=>?_;subst e)
 |(refine Ok.bind (Ok.of i2 rfl) fun y e=>?_;subst e)
 |(refine Ok.bind (Ok.of i3 rfl) fun y e=>?_;subst e)
 |(refine Ok.bind (Ok.of i4 rfl) fun y e=>?_;subst e)
 |(refine Ok.bind (Ok.of i5 rfl) fun y e=>?_;subst e)
 |(refine Ok.bind (Ok.of i6 rfl) fun y e=>?_;subst e)
 |(refine Ok.bind (Ok.of i7 rfl) fun y e=>?_;subst e)
 |(refine Ok.bind (Ok.of (d6j _ _ _) rfl) fun y e=>?_;subst e))
 refine Ok.ret ?_
 rw [el]
 simp [c4o,c9j,c4x,d3n,b1o,d3o]
theorem c3s {n:Int}:∀c∈Lib.itoa n,c=45∨(48≤c.toNat∧c.toNat≤57):=by
 by_cases h:0≤n
 ·obtain ⟨u,rfl⟩:=Int.eq_ofNat_of_zero_le h
  rw [Lib.itoa_nonneg]
  exact fun c hc=>.inr (a6w u c hc)
 ·obtain ⟨u,hu⟩:∃u:Nat,n=-(u:Int):=⟨(-n).toNat,by omega⟩
  subst hu
  rw [Lib.itoa_neg u (by omega)]
  intro c hc
  rcases w4.1 hc with rfl|hc
  ·exact .inl rfl
  ·exact .inr (a6w u c hc)
theorem e95 {u:Nat}:∀c∈Lib.decDigits u,c≠32:=fun c hc e=>by
 subst e;have:=a6w u _ hc;simp at this
theorem a7n {n:Int}:∀c∈Lib.itoa n,c≠32:=fun c hc e=>by
 subst e;rcases c3s _ hc with h|h
 ·cases h
 ·simp at h
theorem d99 {b:Bool} {y n:Str} (h1:∀c∈y,c≠32) (h2:∀c∈n,c≠32):∀c∈ch b y n,c≠32:=by cases b<;>assumption
def NS (l:Str):Prop:=∀c∈l,c≠32
theorem e2i (m:l6):∀w∈wds m,∀c∈w,c≠32:=by
 have lit:∀{l:Str},(l.all fun c=>c != 32)=true→∀c∈l,c≠32:=fun h c hc=>by
  have:=wF.1 h c hc
  simpa using this
 show ∀w∈wds m,NS w
 unfold wds
 simp only [List.forall_mem_cons]
 exact ⟨lit (by decide),e95,lit (by decide),a7n,d99 (lit (by decide)) (lit (by decide)),lit (by decide),a7n,lit (by decide),a7n,lit (by decide),a7n,lit (by decide),a7n,lit (by decide),a7n,lit (by decide),a7n,
  d99 (lit (by decide)) (lit (by decide)),d99 (lit (by decide)) (lit (by decide)),fun _ h=>by cases h⟩
theorem b8y (m:l6):spl 32 (ltx m)=wds m:=c0k _ _ (e2i m)
def zS:l6:=l6.mk 0 0 false 0 0 (p8.mk 0 0 0 0) false false
def e3c (o:Nat) (v:Int) (m:l6):l6:=match o with
 | 1=>{ m with Spots:=v }
 | 3=>{ m with Readers:=v }
 | 4=>{ m with Since:=v }
 | 5=>{ m with Severity:={ m.Severity with Level:=v } }
 | 6=>{ m with Severity:={ m.Severity with Worth:=v } }
 | 7=>{ m with Severity:={ m.Severity with Audience:=v } }
 | 8=>{ m with Severity:={ m.Severity with Score:=v } }
 | _=>m
abbrev d2l:List (Int×Nat):=[(3,1),(6,3),(8,4),(10,5),(12,6),(14,7),(16,8)]
def bdy (y:List Str) (s:Bool×l6) (a:Int×Nat):Bool×l6:=(s.1||!a1n (y.getD a.1.toNat default),e3c a.2 (a1f (y.getD a.1.toNat default)) s.2)
theorem g1r {y:List Str} (hy:y.length=19) (hl:∀k,(y.getD k default).length≤281474976710656) {a:Int×Nat} (ha:a∈d2l) (k:Int) (s:Bool×l6):e1v y k a s=some (bdy y s a):=by
 have at':∀k,a4t (y.getD k default)=some (a1f (y.getD k default),a1n (y.getD k default)):=fun k=>o8 (wV (hl k))
 have ib:∀k:Int,0≤k→k<19→inb k y.length=true:=fun k h0 h1=>q9.2 ⟨h0,by omega⟩
 simp only [d2l,w4,List.not_mem_nil,or_false] at ha
 rcases ha with rfl|rfl|rfl|rfl|rfl|rfl|rfl
 ·show chk (inb 3 y.length) ((a4t (y.getD 3 default)).bind _)=_
  rw [o8 (ib 3 (by decide) (by decide)),at'];rfl
 ·show chk (inb 6 y.length) ((a4t (y.getD 6 default)).bind _)=_
  rw [o8 (ib 6 (by decide) (by decide)),at'];rfl
 ·show chk (inb 8 y.length) ((a4t (y.getD 8 default)).bind _)=_
  rw [o8 (ib 8 (by decide) (by decide)),at'];rfl
 ·show chk (inb 10 y.length) ((a4t (y.getD 10 default)).bind _)=_
  rw [o8 (ib 10 (by decide) (by decide)),at'];rfl
 ·show chk (inb 12 y.length) ((a4t (y.getD 12 default)).bind _)=_
  rw [o8 (ib 12 (by decide) (by decide)),at'];rfl
 ·show chk (inb 14 y.length) ((a4t (y.getD 14 default)).bind _)=_
  rw [o8 (ib 14 (by decide) (by decide)),at'];rfl
 ·show chk (inb 16 y.length) ((a4t (y.getD 16 default)).bind _)=_
  rw [o8 (ib 16 (by decide) (by decide)),at'];rfl
theorem c7h {y:List Str} (hy:y.length=19) (hl:∀k,(y.getD k default).length≤281474976710656):∀(l:List (Int×Nat)) (k:Int) (s:Bool×l6),(∀a∈l,a∈d2l)→a0d (e1v y) l k s=some (l.foldl (bdy y) s)
 | [],k,s,_=>rfl
 | a::l,k,s,h=>by
  simp only [a0d,g1r hy hl (h a (by simp)),xZ,wQ]
  exact c7h hy hl l (k+1) _ fun b hb=>h b (by simp [hb])
theorem d35 {y:List Str}:∀a∈d2l,∀b∈d2l,∀s,bdy y (bdy y s a) b=bdy y (bdy y s b) a:=by
 intro a ha b hb s
 have hB:∀p q r:Bool,((p||q)||r)=((p||r)||q):=by decide
 unfold bdy
 refine Prod.ext (hB _ _ _) ?_
 show e3c b.2 _ (e3c a.2 _ s.2)=e3c a.2 _ (e3c b.2 _ s.2)
 simp only [d2l,w4,List.not_mem_nil,or_false] at ha hb
 rcases ha with rfl|rfl|rfl|rfl|rfl|rfl|rfl<;>rcases hb with rfl|rfl|rfl|rfl|rfl|rfl|rfl<;>rfl
def f03 (y:List Str):Bool:=!(a1n (y.getD 3 default)&&a1n (y.getD 6 default)&&a1n (y.getD 8 default)&&a1n (y.getD 10 default)&&a1n (y.getD 12 default)&&a1n (y.getD 14 default)&&a1n (y.getD 16 default))
def tS (u:Int) (y:List Str):l6:=l6.mk u (a1f (y.getD 3 default)) (decide ((y.getD 4 default)=c4o)) (a1f (y.getD 6 default)) (a1f (y.getD 8 default))
 (p8.mk (a1f (y.getD 10 default)) (a1f (y.getD 12 default)) (a1f (y.getD 14 default)) (a1f (y.getD 16 default))) (decide ((y.getD 17 default)=c4x)) (decide ((y.getD 18 default)=b1o))
theorem e2s {u:Int} (h0:0≤u) (h1:u≤18446744073709551615) (y:List Str):SV (tS u y):=by
 have r:∀s,a0p (a1f s)=true:=fun s=>by have:=b3i s;rw [e3p] at this;exact this
 exact ⟨h0,h1,r _,r _,r _,r _,r _,r _,r _⟩
theorem d6g {s:Str} (h:s.length≤281474976710656):∃u b,puE s 10 64=some (u,b)∧0≤u∧u≤18446744073709551615:=by
 unfold puE
 rw [o8 (by simp [h])]
 cases e:Lib.parseUintB 64 s with
 | ok u=>exact ⟨u,true,rfl,by omega,by have:=Lib.parseUintB_le e;simp at this;omega⟩
 | range=>exact ⟨_,_,rfl,by decide,by decide⟩
 | _=>exact ⟨0,false,rfl,by decide,by decide⟩
theorem b5l {u:Nat} (h:u≤18446744073709551615):puE (Lib.decDigits u) 10 64=some ((u:Int),true):=by
 have hl:=b9z (u:=u) (by omega)
 unfold puE
 rw [o8 (by simp;omega),Lib.parseUintB_64,b9o u h]
theorem c5h (b:UInt8) (s:Str) (k:Nat):((spl b s).getD k default).length≤s.length:=by
 by_cases h:k<(spl b s).length
 ·have:(spl b s).getD k default∈spl b s:=by rw [zE,zJ h];exact wD h
  exact b8z b s _ this
 ·rw [zE,List.getElem?_eq_none (by omega)];exact vJ _
theorem d6h {t:Str} (ht:t.length≤1000):∃u:Int,0≤u∧u≤18446744073709551615∧(∀m,SV m→spl 32 t=wds m→u=m.Fingerprint) ∧
  ((∃b,F_i t=some (bif b||(!decide ((spl 32 t).length=19)||!decide (ltx (tS u (spl 32 t))=t)) then (zS,4) else (tS u (spl 32 t),0))∧(∀m,SV m→spl 32 t=wds m→b=false))):=by
 have es:d5f t [32]=some (spl 32 t):=by
  unfold d5f;simp only;rw [wV (by omega)];rfl
 have hl:∀k,((spl 32 t).getD k default).length≤281474976710656:=fun k=>vD (c5h 32 t k) (by omega)
 obtain ⟨u,bu,hu,h0,h1⟩:=d6g (hl 1)
 refine ⟨u,h0,h1,fun m hm e=>?_,?_⟩
 ·rw [e] at hu
  have h2:puE ((wds m).getD 1 default) 10 64=some ((m.Fingerprint.toNat:Int),true):=b5l (by have:=hm.f1;omega)
  rw [h2] at hu
  have:=congrArg Prod.fst (wJ hu)
  simp only at this
  have:=hm.f0;omega
 ·generalize hy:spl 32 t=y at es hl hu
  by_cases h19:y.length=19
  ·have hperm:∀l,l.Perm d2l→a0d (e1v y) l 0 (!bu,zS)=some (d2l.foldl (bdy y) (!bu,zS)):=fun l hp=>by
    rw [c7h h19 hl l 0 _ fun a ha=>hp.mem_iff.1 ha]
    exact congrArg some (List.Perm.foldl_eq' hp (fun a ha b hb s=>d35 a (hp.mem_iff.1 ha) b (hp.mem_iff.1 hb) s) _)
   have hfin:d2l.foldl (bdy y) (!bu,zS)=(!bu||f03 y,{ tS u y with Fingerprint:=0,Public:=false,Rotated:=false,Dead:=false }):=by
    refine Prod.ext ?_ rfl
    show (((((((!bu||!a1n _)||!a1n _)||!a1n _)||!a1n _)||!a1n _)||!a1n _)||!a1n _)=_
    unfold f03
    have:∀a b c d e f g h:Bool,(((((((!a||!b)||!c)||!d)||!e)||!f)||!g)||!h)=(!a||!(b&&c&&d&&e&&f&&g&&h)):=by decide
    exact this _ _ _ _ _ _ _ _
   refine ⟨!bu||f03 y,?_,fun m hm e=>?_⟩
   ·refine Ok.eq ?_
    unfold F_i
    refine Ok.bind (Ok.of es rfl) fun y' e=>?_
    subst e
    refine Ok.ite (fun hc=>by simp [h19] at hc) fun _=>?_
    refine Ok.chk (q9.2 ⟨by decide,by omega⟩) (Ok.bind (Ok.of hu rfl) fun q e=>?_)
    subst e
    refine Ok.of (b5p fun l hp=>?_) rfl
    show ((a0d (e1v y) l 0 (!bu,zS)).bind _)=_
    rw [hperm l hp,hfin,xZ,o8 (q9.2 ⟨by decide,by omega⟩),o8 (q9.2 ⟨by decide,by omega⟩),o8 (q9.2 ⟨by decide,by omega⟩)]
    cases hw:(!bu||f03 y) with
    | true=>simp only [vQ,Bool.true_or];rfl
    | false =>
     simp only [vO,w7]
     show ((F_d (tS u y)).bind fun y127=>bif !decide (y127=t) then some (zS,4) else some (tS u y,0))=_
     rw [c57 (e2s h0 h1 y),xZ]
     rw [wV h19,w6,w7]
     cases hd:(!decide (ltx (tS u y)=t))<;>rfl
   ·have hat:∀{n:Int},a0p n=true→a1n (Lib.itoa n)=true:=fun {n} h=>by
     have:=b86 (a1q.1 h).1 (a1q.1 h).2
     have:=(b3j this).2
     have:=congrArg Prod.snd this
     exact this.symm
    rw [e] at hu
    have h2:puE ((wds m).getD 1 default) 10 64=some ((m.Fingerprint.toNat:Int),true):=b5l (by have:=hm.f1;omega)
    rw [h2] at hu
    have hb:=congrArg Prod.snd (wJ hu)
    simp only at hb
    subst hb
    rw [e]
    unfold f03
    show (!true||!(a1n (Lib.itoa _)&&a1n (Lib.itoa _)&&a1n (Lib.itoa _)&&a1n (Lib.itoa _)&&a1n (Lib.itoa _)&&a1n (Lib.itoa _)&&a1n (Lib.itoa _)))=false
    rw [hat hm.a,hat hm.b,hat hm.c,hat hm.d,hat hm.e,hat hm.f,hat hm.g];rfl
  ·refine ⟨true,?_,fun m hm e=>absurd (by rw [e];rfl) h19⟩
   refine Ok.eq ?_
   unfold F_i
   refine Ok.bind (Ok.of es rfl) fun y' e=>?_
   subst e
   refine Ok.ite (fun _=>Ok.ret rfl) fun hc=>?_
   simp at hc;omega
theorem c5c {m:l6} (hm:SV m):tS m.Fingerprint (wds m)=m:=by
 have hat:∀{n:Int},a0p n=true→a1f (Lib.itoa n)=n:=fun {n} h=>by
  have:=b86 (a1q.1 h).1 (a1q.1 h).2
  exact (congrArg Prod.fst (b3j this).2).symm
 have c1:∀b,decide (ch b c4o c9j=c4o)=b:=fun b=>by cases b<;>decide
 have c2:∀b,decide (ch b c4x d3n=c4x)=b:=fun b=>by cases b<;>decide
 have c3:∀b,decide (ch b b1o d3o=b1o)=b:=fun b=>by cases b<;>decide
 show l6.mk m.Fingerprint (a1f (Lib.itoa _)) (decide (ch _ c4o c9j=c4o)) (a1f (Lib.itoa _)) (a1f (Lib.itoa _)) (p8.mk (a1f (Lib.itoa _)) (a1f (Lib.itoa _)) (a1f (Lib.itoa _)) (a1f (Lib.itoa _))) (decide (ch _ c4x d3n=c4x)) (decide (ch _ b1o d3o=b1o))=m
 rw [hat hm.a,hat hm.b,hat hm.c,hat hm.d,hat hm.e,hat hm.f,hat hm.g,c1,c2,c3]
def e03 (t:Str) (r:l6×Int):Prop:=(∃m,SV m∧ltx m=t∧r=(m,0))∨((∀m,SV m→ltx m≠t)∧r=(zS,4))
theorem e3t {t:Str} (ht:t.length≤1000):Ok (F_i t) (e03 t):=by
 obtain ⟨u,h0,h1,hm,b,hb,hbf⟩:=d6h ht
 refine ⟨_,hb,?_⟩
 by_cases h:∃m,SV m∧ltx m=t
 ·obtain ⟨m,hm1,rfl⟩:=h
  have e:=b8y m
  have e1:=hm m hm1 e
  subst e1
  rw [hbf m hm1 e,e,c5c hm1]
  refine .inl ⟨m,hm1,rfl,?_⟩
  simp [wds]
 ·refine .inr ⟨fun m hm1 e=>h ⟨m,hm1,e⟩,?_⟩
  have:decide (ltx (tS u (spl 32 t))=t)=false:=wI fun e=>h ⟨_,e2s h0 h1 _,e⟩
  rw [this];simp
theorem d6c {t:Str} {r r':l6×Int} (h:e03 t r) (h':e03 t r'):r=r':=by
 rcases h with ⟨m,hm,e,rfl⟩|⟨h,rfl⟩<;>rcases h' with ⟨m',hm',e',rfl⟩|⟨h',rfl⟩
 ·have e1:=b8y m
  have e2:=b8y m'
  rw [e] at e1;rw [e'] at e2
  have e3:wds m=wds m':=e1.symm.trans e2
  have hf:m.Fingerprint=m'.Fingerprint:=by
   have h1:puE ((wds m).getD 1 default) 10 64=some ((m.Fingerprint.toNat:Int),true):=b5l (by have:=hm.f1;omega)
   have h2:puE ((wds m').getD 1 default) 10 64=some ((m'.Fingerprint.toNat:Int),true):=b5l (by have:=hm'.f1;omega)
   rw [e3,h2] at h1
   have:=congrArg Prod.fst (wJ h1)
   simp only at this
   have:=hm.f0;have:=hm'.f0;omega
  have h1:=c5c hm
  have h2:=c5c hm'
  rw [e3,hf,h2] at h1
  rw [h1]
 ·exact absurd e (h' m hm)
 ·exact absurd e' (h m' hm')
 ·rfl
def m43:l6:=⟨7,1,false,2,5,⟨2,100,3,300⟩,true,true⟩
theorem d43:SV m43:=by
 have h:∀n:Int,-9223372036854775808≤n→n≤9223372036854775807→a0p n=true:=fun n a b=>a1q.2 ⟨a,b⟩
 exact ⟨by decide,by decide,h _ (by decide) (by decide),h _ (by decide) (by decide),h _ (by decide) (by decide),h _ (by decide) (by decide),h _ (by decide) (by decide),h _ (by decide) (by decide),h _ (by decide) (by decide)⟩
abbrev t43:Str:=[108,101,97,107,32,55,32,115,112,111,116,115,32,49,32,105,110,115,105,100,101,32,114,101,97,100,101,114,115,32,50,32,115,105,110,99,101,32,53,32,108,101,118,101,108,32,50,32,119,111,114,116,104,32,49,48,48,32,97,117,100,105,101,110,99,101,32,51,32,115,99,111,114,101,32,51,48,48,32,114,111,116,97,116,101,100,32,100,101,97,100]
theorem e1b {u:Nat} (h:u<10):Lib.decDigits u=[UInt8.ofNat (48+u)]:=by rw [Lib.decDigits,dif_pos h]
theorem g4u {a b c:Nat} (h0:1≤a) (ha:a<10) (hb:b<10) (hc:c<10):Lib.decDigits (100*a+10*b+c)=[UInt8.ofNat (48+a),UInt8.ofNat (48+b),UInt8.ofNat (48+c)]:=by
 rw [Lib.decDigits,dif_neg (by omega),show (100*a+10*b+c) / 10=10*a+b by omega,show (100*a+10*b+c) % 10=c by omega,Lib.decDigits,dif_neg (by omega),show (10*a+b) / 10=a by omega,show (10*a+b) % 10=b by omega,e1b ha]
 rfl
theorem e7r:ltx m43=t43:=by
 have i:∀u:Nat,Lib.itoa (u:Int)=Lib.decDigits u:=fun u=>Lib.itoa_nonneg u
 have e:wds m43=[[108,101,97,107],[55],[115,112,111,116,115],[49],[105,110,115,105,100,101],
  [114,101,97,100,101,114,115],[50],[115,105,110,99,101],[53],[108,101,118,101,108],[50],[119,111,114,116,104],[49,48,48],
  [97,117,100,105,101,110,99,101],[51],[115,99,111,114,101],[51,48,48],[114,111,116,97,116,101,100],[100,101,97,100]]:=by
  show [[108,101,97,107],Lib.decDigits 7,[115,112,111,116,115],Lib.itoa ((1:Nat):Int),[105,110,115,105,100,101],
   [114,101,97,100,101,114,115],Lib.itoa ((2:Nat):Int),[115,105,110,99,101],Lib.itoa ((5:Nat):Int),[108,101,118,101,108],Lib.itoa ((2:Nat):Int),[119,111,114,116,104],Lib.itoa ((100*1+10*0+0:Nat):Int),
   [97,117,100,105,101,110,99,101],Lib.itoa ((3:Nat):Int),[115,99,111,114,101],Lib.itoa ((100*3+10*0+0:Nat):Int),[114,111,116,97,116,101,100],[100,101,97,100]]=_
  rw [i,i,i,i,i,i,e1b (u:=7) (by decide),e1b (u:=1) (by decide),e1b (u:=2) (by decide),e1b (u:=5) (by decide),e1b (u:=3) (by decide),g4u (a:=1) (b:=0) (c:=0) (by decide) (by decide) (by decide) (by decide),g4u (a:=3) (b:=0) (c:=0) (by decide) (by decide) (by decide) (by decide)]
  rfl
 unfold ltx
 rw [e];rfl
theorem b83 (m:l6):f1q m=some (m.Rotated&&m.Dead):=rfl
theorem c8q:e1h=some true:=by
 obtain ⟨r,hr,hres⟩:=e3t (t:=t43) (by decide)
 have e:=d6c hres (.inl ⟨m43,d43,e7r,rfl⟩)
 subst e
 refine Ok.eq ?_
 unfold e1h
 refine Ok.bind (Ok.of hr rfl) fun y e=>?_
 subst e
 refine Ok.jn (P:=fun b=>b=true) ?_ fun b e=>?_
 ·refine Ok.ite (fun _=>?_) fun h=>by simp at h
  refine Ok.bind (Ok.of (c57 d43) rfl) fun y e=>?_
  subst e
  rw [e7r]
  exact Ok.ret (wV rfl)
 ·subst e
  refine Ok.grp (Ok.grp ?_)
  refine Ok.jn (P:=fun b=>b=true) ?_ fun b e=>by subst e;exact Ok.ret rfl
  exact Ok.ite (fun _=>Ok.bind (Ok.of (b83 m43) rfl) fun y e=>by subst e;exact Ok.ret rfl) fun h=>by simp [m43] at h
theorem d5d {m:l6} (h:(l6.v m).fact):SV m:=by
 obtain ⟨a,b,c,d,e,f,g,i,j,k,l,_⟩:=h
 have r:∀{n:Int},(V.int .i64 n).fact→a0p n=true:=fun h=>a1q.2 (a3h h)
 exact ⟨a.1,a.2,r b,r d,r e,r f,r g,r i,r j⟩
theorem c0f {P:Program} {f:FuncId} {ys:List V} {H:Heap} {Q:V→Heap→Prop} (hc:callable P f=true) (h:(∀y∈ys,y.fact)→a0o P f ys H Q):a0o P f ys H Q :=
 ⟨hc,fun g w vals hH hs hr=>(h fun y hy=>by
  obtain ⟨i,hi⟩:=List.getElem?_of_mem hy
  exact (hr i y hi).fact).2 g w vals hH hs hr⟩
def e0z (s:Str):Prop:=1≤s.length∧s.length≤40∧∀c∈s,97≤c.toNat∧c.toNat≤122
instance (s:Str):Decidable (e0z s):=inferInstanceAs (Decidable (_∧_∧_))
def b9r (i:a0e):Prop:=e0z i.Name∧1≤i.Slots∧i.Slots≤2
instance (i:a0e):Decidable (b9r i):=inferInstanceAs (Decidable (_∧_∧_))
def c9a (n:Nat) (c:o7):Prop:=0≤c.Issuer∧c.Issuer<n∧0≤c.Holder∧c.Holder≤23∧0≤c.From∧c.From<c.Until∧c.Until≤1099511627777
instance (n:Nat) (c:o7):Decidable (c9a n c):=inferInstanceAs (Decidable (_∧_∧_∧_∧_∧_∧_))
def hdB (i h t:Int) (c:o7):Bool:=decide (c.Issuer=i)&&decide (c.Holder=h)&&decide (c.From≤t)&&decide (t<c.Until)
def b7e {α:Type} (p:α→Bool):Nat→List α→List Int
 | _,[]=>[]
 | k,x::r=>bif p x then (k:Int)::b7e p (k+1) r else b7e p (k+1) r
def g02 (L:List o7) (i h t:Int):List Int:=b7e (hdB i h t) 0 L
def crR (r:o6) (c:o7):Prop:=((g02 r.Credentials c.Issuer c.Holder c.From).length:Int)≤(r.Issuers.getD c.Issuer.toNat default).Slots
instance (r:o6) (c:o7):Decidable (crR r c):=inferInstanceAs (Decidable (_≤_))
def a2x (r:o6):Prop:=r.Issuers.length≤8∧r.Credentials.length≤24∧(∀i∈r.Issuers,b9r i)∧(∀c∈r.Credentials,c9a r.Issuers.length c)∧∀c∈r.Credentials,crR r c
instance (r:o6):Decidable (a2x r):=inferInstanceAs (Decidable (_∧_∧_∧_∧_))
theorem c1s {α:Type} (p:α→Bool):∀(l:List α) (k:Nat),(b7e p k l).length≤l.length
 | [],k=>vL _
 | x::r,k=>by
  simp only [b7e]
  have:=c1s p r (k+1)
  cases p x<;>simp<;>omega
theorem b5w {α:Type} [Inhabited α] {p:α→Bool} {i:Int}:∀{l:List α} {k:Nat},i∈b7e p k l↔∃j,j<l.length∧i=(k+j:Nat)∧p (l.getD j default)=true
 | [],k=>by simp [b7e]
 | x::r,k=>by
  simp only [b7e]
  have ih:=b5w (p:=p) (i:=i) (l:=r) (k:=k+1)
  have e:(∃j,j<(x::r).length∧i=(k+j:Nat)∧p ((x::r).getD j default)=true)↔(i=k∧p x=true)∨∃j,j<r.length∧i=(k+1+j:Nat)∧p (r.getD j default)=true:=by
   constructor
   ·rintro ⟨j,h1,h2,h3⟩
    cases j with
    | zero=>exact .inl ⟨by simpa using h2,by simpa using h3⟩
    | succ j=>exact .inr ⟨j,by simpa using h1,by rw [h2];omega,by simpa using h3⟩
   ·rintro (⟨h1,h2⟩|⟨j,h1,h2,h3⟩)
    ·exact ⟨0,by simp,by simpa using h1,by simpa using h2⟩
    ·exact ⟨j+1,by simpa using h1,by rw [h2];omega,by simpa using h3⟩
  rw [e,←ih]
  cases hp:p x<;>simp
theorem a3o {α:Type} {body:Int→α→List Int→Option (List Int)} (p:α→Bool) (n:Nat) (hn:n≤100000):∀(l:List α) (k:Nat) (s:List Int),s.length+l.length≤n →
  (∀(k:Int) (a:α) (x:List Int),a∈l→x.length<n→body k a x=some (bif p a then x++[k] else x))→a0d body l (k:Int) s=some (s++b7e p k l)
 | [],k,s,h,hb=>by simp [a0d,b7e]
 | a::r,k,s,h,hb=>by
  simp only [wC] at h
  simp only [a0d,hb k a s (by simp) (by omega),xZ]
  have e:((k:Int)+1)=((k+1:Nat):Int):=by omega
  rw [e]
  cases hp:p a with
  | true =>
   rw [vQ,a3o p n hn r (k+1) _ (by simp;omega) fun k a x ha=>hb k a x (by simp [ha])]
   simp [b7e,hp]
  | false =>
   rw [vO,a3o p n hn r (k+1) _ (by omega) fun k a x ha=>hb k a x (by simp [ha])]
   simp [b7e,hp]
theorem c5w (x a b:Int):e0a x a b=some (decide (a≤x)&&decide (x≤b)):=rfl
theorem e3u (x a b:Int):e1n x a b=some (decide (a≤x)&&decide (x≤b)):=rfl
theorem a2s {a b x:Int}:((decide (a≤x)&&decide (x≤b))=true)↔(a≤x∧x≤b):=by simp
theorem c35 (s:Str) (h:s.length≤40):Ok (loop (f6w s) 0) fun r=>(r=.inl ()∧∀c∈s,97≤c.toNat∧c.toNat≤122)∨(r=.inr false∧¬∀c∈s,97≤c.toNat∧c.toNat≤122):=by
 refine Ok.loop (fun x:Int=>0≤x∧x≤s.length∧∀c∈s.take x.toNat,97≤c.toNat∧c.toNat≤122) (fun x:Int=>(s.length - x).toNat) (fun x hx=>?_) 0 ⟨by omega,by omega,by simp⟩
 obtain ⟨h0,h1,h2⟩:=hx
 unfold f6w
 refine Ok.ite (fun c=>?_) fun c=>?_
 ·have c:x<s.length:=by simpa using c
  have hi:x.toNat<s.length:=by omega
  have hm:s.getD x.toNat 0∈s:=by simp [zE,hi]
  refine Ok.chk (q9.2 ⟨h0,c⟩) (Ok.ite (fun c1=>Ok.ret ?_) fun c1=>Ok.chk (q9.2 ⟨h0,c⟩) (Ok.ite (fun c2=>Ok.ret ?_) fun c2=>Ok.chk (u6 (by omega) (by omega)) (Ok.ret ?_)))
  ·refine .inr ⟨rfl,fun hh=>?_⟩
   have:=hh _ hm
   have c1:((s.getD x.toNat 0).toNat:Int)<97:=by simpa using c1
   omega
  ·refine .inr ⟨rfl,fun hh=>?_⟩
   have:=hh _ hm
   have c2:122<((s.getD x.toNat 0).toNat:Int):=by simpa using c2
   omega
  ·have c1:¬((s.getD x.toNat 0).toNat:Int)<97:=by simpa using c1
   have c2:¬122<((s.getD x.toNat 0).toNat:Int):=by simpa using c2
   refine ⟨⟨by omega,by omega,fun q hq=>?_⟩,by omega⟩
   rw [show (x+1).toNat=x.toNat+1 by omega,List.take_add_one] at hq
   rcases wN.1 hq with hq|hq
   ·exact h2 q hq
   ·rw [zJ hi] at hq
    simp only [Option.toList_some,xI] at hq
    subst hq
    have:s.getD x.toNat 0=s[x.toNat]:=by simp [zE,hi]
    rw [this] at c1 c2
    omega
 ·have c:¬x<s.length:=by simpa using c
  refine Ok.ret (.inl ⟨rfl,?_⟩)
  rwa [show x.toNat=s.length by omega,wA] at h2
theorem d09 (s:Str) (hs:s.length≤1000000):f2x s=some (decide (e0z s)):=by
 unfold f2x
 rw [c5w,xZ]
 by_cases h:1≤s.length∧s.length≤40
 ·have e:(decide ((1:Int)≤s.length)&&decide ((s.length:Int)≤40))=true:=a2s.2 (by omega)
  rw [e]
  obtain ⟨r,e1,e2⟩:=c35 s h.2
  simp only [w6,vO,e1,xZ]
  rcases e2 with ⟨rfl,e2⟩|⟨rfl,e2⟩
  ·simp only [Sum.elim_inl];rw [wV ⟨h.1,h.2,e2⟩]
  ·simp only [Sum.elim_inr];rw [wI fun hh=>e2 hh.2.2]
 ·have e:(decide ((1:Int)≤s.length)&&decide ((s.length:Int)≤40))=false:=by
   rw [Bool.eq_false_iff];intro hh;have:=a2s.1 hh;omega
  rw [e]
  simp only [wY,vQ]
  rw [wI fun hh=>h ⟨hh.1,hh.2.1⟩]
theorem b4d (r:o6) (c:o7) (h:r.Issuers.length≤8):f1p r c=some (decide (c9a r.Issuers.length c)):=by
 unfold f1p
 rw [o8 (u6 (by omega) (by omega))]
 simp only [c5w,xZ,jn,grp]
 cases h1:(decide (0≤c.Issuer)&&decide (c.Issuer≤(r.Issuers.length:Int) - 1)) with
 | false =>
  simp only [vO,xZ,Bool.false_and]
  rw [wI];intro hh
  have:(decide (0≤c.Issuer)&&decide (c.Issuer≤(r.Issuers.length:Int) - 1))=true:=a2s.2 ⟨hh.1,by have:=hh.2.1;omega⟩
  rw [h1] at this;cases this
 | true =>
  have h1:=a2s.1 h1
  simp only [vQ,xZ]
  congr 1
  rw [wU]
  simp only [wG,xO]
  constructor
  ·rintro ⟨⟨⟨⟨a,b⟩,c'⟩,d⟩,e⟩
   exact ⟨h1.1,by omega,a,b,c',d,e⟩
  ·rintro ⟨_,_,a,b,c',d,e⟩
   exact ⟨⟨⟨⟨a,b⟩,c'⟩,d⟩,e⟩
theorem d0a (r:o6) (i h t:Int) (hn:r.Credentials.length≤24):f2w r i h t=some (g02 r.Credentials i h t):=by
 unfold f2w
 rw [show (0:Int)=((0:Nat):Int) from rfl,a3o (hdB i h t) 24 (by omega) r.Credentials 0 [] (by simpa using hn) fun k a x ha hx=>?_]
 ·rfl
 ·unfold g2k
  simp only [grp,hdB]
  cases (decide (a.Issuer=i)&&decide (a.Holder=h)&&decide (a.From≤t)&&decide (t<a.Until)) with
  | false=>rfl
  | true=>simp only [vQ];rw [o8 (a04 (by simp;omega))]
theorem a1b {α ρ:Type} {f:α→Option ρ} {p:α→Prop} [DecidablePred p] {y:ρ}:∀{l:List α},(∀x∈l,f x=if p x then none else some y)→a3g f l=if (∀x∈l,p x) then none else some y
 | [],h=>by simp [a3g]
 | x::r,h=>by
  simp only [a3g,h x (by simp)]
  by_cases hp:p x
  ·simp only [hp,if_true]
   rw [a1b (p:=p) (y:=y) fun x hx=>h x (by simp [hx])]
   by_cases hq:∀x∈r,p x
   ·rw [if_pos hq,if_pos (by simpa using ⟨hp,hq⟩)]
   ·rw [if_neg hq,if_neg fun hh=>hq fun x hx=>hh x (by simp [hx])]
  ·simp only [hp,if_false]
   rw [if_neg fun hh=>hp (hh x (by simp))]
theorem a5v (r:o6) (hn:∀i∈r.Issuers,i.Name.length≤1000000):F_8 r=some (decide (a2x r)):=by
 unfold F_8
 simp only [grp]
 by_cases h0:r.Issuers.length≤8∧r.Credentials.length≤24
 ·have e:(decide ((8:Int)<r.Issuers.length)||decide ((24:Int)<r.Credentials.length))=false:=by simp;omega
  rw [e,vO]
  rw [a0k (fun i=>if b9r i then none else some false) r.Issuers 0 fun k a ha=>?_]
  ·rw [a1b (p:=b9r) (y:=false) fun _ _=>rfl,xZ,a2t]
   by_cases h1:∀i∈r.Issuers,b9r i
   ·rw [if_pos h1]
    simp only
    rw [a0k (fun c=>if c9a r.Issuers.length c then none else some false) r.Credentials 0 fun k a ha=>?_]
    ·rw [a1b (p:=c9a r.Issuers.length) (y:=false) fun _ _=>rfl,xZ,a2t]
     by_cases h2:∀c∈r.Credentials,c9a r.Issuers.length c
     ·rw [if_pos h2]
      simp only
      rw [a0k (fun c=>if crR r c then none else some false) r.Credentials 0 fun k a ha=>?_]
      ·rw [a1b (p:=crR r) (y:=false) fun _ _=>rfl,xZ,a2t]
       by_cases h3:∀c∈r.Credentials,crR r c
       ·rw [if_pos h3,wV ⟨h0.1,h0.2,h1,h2,h3⟩]
       ·rw [if_neg h3,wI fun hh=>h3 hh.2.2.2.2]
      ·unfold g2j
       obtain ⟨q1,q2,_⟩:=h2 a ha
       rw [d0a r _ _ _ h0.2,xZ,o8 (q9.2 ⟨q1,q2⟩)]
       by_cases hc:crR r a
       ·rw [if_pos hc];unfold crR at hc;rw [wI (by omega)];rfl
       ·rw [if_neg hc];unfold crR at hc;rw [wV (by omega)];rfl
     ·rw [if_neg h2,wI fun hh=>h2 hh.2.2.2.1]
    ·unfold g3q
     rw [b4d r a h0.1,xZ]
     by_cases hc:c9a r.Issuers.length a
     ·rw [if_pos hc,wV hc];rfl
     ·rw [if_neg hc,wI hc];rfl
   ·rw [if_neg h1,wI fun hh=>h1 hh.2.2.1]
  ·unfold g4b
   rw [d09 _ (hn a ha),xZ,c5w]
   by_cases h1:e0z a.Name
   ·rw [wV h1]
    simp only [w6,vO,xZ]
    by_cases h2:1≤a.Slots∧a.Slots≤2
    ·rw [a2s.2 h2,if_pos ⟨h1,h2⟩];rfl
    ·rw [if_neg fun hh=>h2 hh.2,show (decide (1≤a.Slots)&&decide (a.Slots≤2))=false by rw [Bool.eq_false_iff];exact fun hh=>h2 (a2s.1 hh)];rfl
   ·rw [wI h1,if_neg fun hh=>h1 hh.1];rfl
 ·have e:(decide ((8:Int)<r.Issuers.length)||decide ((24:Int)<r.Credentials.length))=true:=by simp;omega
  rw [e,vQ,wI fun hh=>h0 ⟨hh.1,hh.2.1⟩]
theorem d1o {r:o6} {c:o7} (h:a2x r):Ok (f1o r c) fun y=>y.2.2=0→a2x y.1∧y.1.Issuers=r.Issuers:=by
 have hn:∀i∈r.Issuers,i.Name.length≤1000000:=fun i hi=>by have:=(h.2.2.1 i hi).1.2.1;omega
 unfold f1o
 rw [a5v r hn,xZ,wV h]
 simp only [w6,vO]
 refine Ok.ite (fun c=>Ok.ret fun e=>by simp at e) fun c1=>?_
 have c1:¬(24:Int)≤r.Credentials.length:=by simpa using c1
 unfold f5u
 have l8:=h.1
 rw [o8 (a04 (by omega)),o8 (a04 (by omega)),xZ]
 refine Ok.chk (a04 (by simp;omega)) ?_
 rw [a5v (o6.mk r.Issuers (r.Credentials++[c])) hn,xZ]
 by_cases hk:a2x ⟨r.Issuers,r.Credentials++[c]⟩
 ·rw [wV hk]
  exact Ok.ret fun _=>⟨hk,rfl⟩
 ·rw [wI hk]
  exact Ok.ret fun e=>by simp at e
theorem e7z:e0z [105,115,115,117,101,114]:=by decide
theorem b9c {t:x8} (h:TOK t):Ok (f4c t) fun y=>a2x y.1∧TOK y.2:=by
 unfold f4c
 refine Ok.bind (a0b h (by omega) (by omega) (by omega)) fun y hy=>?_
 refine Ok.bind (Ok.loop (Q:=fun y:List a0e×x8=>y.1.length≤2∧1≤y.1.length∧(∀i∈y.1,b9r i)∧TOK y.2) (fun x=>0≤x.1∧(x.2.1.length:Int)+x.1≤2∧1≤(x.2.1.length:Int)+x.1∧(∀i∈x.2.1,b9r i)∧TOK x.2.2) (fun x=>x.1.toNat) (fun x hx=>?_) _ ?_) fun r hr=>?_
 ·obtain ⟨k,out,t⟩:=x
  obtain ⟨h1,h2,h2',h3,h4⟩:=hx
  simp only at h1 h2 h2' h3 h4
  unfold g4a
  refine Ok.ite (fun c=>?_) fun c=>?_
  ·have c:0<k:=by simpa using c
   refine Ok.bind (a0b h4 (by omega) (by omega) (by omega)) fun y hy=>?_
   refine Ok.chk (a04 (by simp;omega)) (Ok.chk (u6 (by simp only;omega) (by simp only;omega)) (Ok.ret ?_))
   simp only [Fl.elim]
   refine ⟨⟨by omega,by simp;omega,by simp;omega,fun i hi=>?_,hy.2.2⟩,by omega⟩
   simp only [wN,xI] at hi
   rcases hi with hi|rfl
   ·exact h3 i hi
   ·exact ⟨e7z,hy.1,hy.2.1⟩
  ·have c:¬0<k:=by simpa using c
   refine Ok.ret ?_
   simp only [Fl.elim]
   exact ⟨by omega,by omega,h3,h4⟩
 ·exact ⟨by show 0≤y.1;omega,by show ((0:Nat):Int)+y.1≤2;omega,by show 1≤((0:Nat):Int)+y.1;omega,by simp,hy.2.2⟩
 ·obtain ⟨r1,r1',r2,r3⟩:=hr
  refine Ok.bind (a02 r3 (by omega)) fun z hz=>?_
  refine Ok.bind (Ok.loop (Q:=fun y:o6×x8=>a2x y.1∧TOK y.2) (fun x=>0≤x.1∧x.1≤8∧a2x x.2.1∧1≤x.2.1.Issuers.length∧TOK x.2.2) (fun x=>x.1.toNat) (fun x hx=>?_) _ ?_) fun r hr=>Ok.ret hr
  ·obtain ⟨k,reg,t⟩:=x
   obtain ⟨h1,h2,h3,h3',h4⟩:=hx
   simp only at h1 h2 h3 h3' h4
   unfold g2i
   refine Ok.ite (fun c=>?_) fun c=>Ok.ret ⟨h3,h4⟩
   have c:0<k:=by simpa using c
   refine Ok.jn (P:=fun j:o6×x8=>a2x j.1∧1≤j.1.Issuers.length∧TOK j.2) ?_ fun j hj=>Ok.chk (u6 (by simp only;omega) (by simp only;omega)) (Ok.ret ?_)
   ·refine Ok.bind (P:=fun y:o7×x8=>TOK y.2) ?_ fun y hy=>Ok.bind (d1o h3) fun w hw=>?_
    ·unfold f5v
     refine Ok.bind (a02 h4 (by omega)) fun a ha=>Ok.bind (a02 ha.2.2 (by simp only;omega)) fun b hb=>Ok.bind (a02 hb.2.2 (by omega)) fun c hc=>Ok.bind (a02 hc.2.2 (by omega)) fun d hd=>?_
     exact Ok.chk (u6 (by omega) (by omega)) (Ok.bind (a02 hd.2.2 (by omega)) fun e he=>Ok.chk (u6 (by omega) (by omega)) (Ok.ret he.2.2))
    ·refine Ok.ite (fun c=>Ok.ret ?_) fun c=>Ok.ret ⟨h3,h3',hy⟩
     have:=hw (by simpa using c)
     exact ⟨this.1,by rw [this.2];exact h3',hy⟩
   ·simp only [Fl.elim]
    exact ⟨⟨by omega,by omega,hj⟩,by omega⟩
  ·have r3:(r.1.length:Int)≤2:=by omega
   exact ⟨hz.1,by show z.1≤8;omega,⟨by show r.1.length≤8;omega,by simp,r2,by simp,by simp⟩,r1',hz.2.2⟩
def c2j (f:a01):Prop:=(f.Slots=1∨f.Slots=2)∧1≤f.Consumers.length∧f.Consumers.length≤8∧∀c∈f.Consumers,0≤c.Pool∧c.Pool≤7
def bOK (dual:Bool) (kn x:Int):Prop:=x=1∨kn=3∧(x=2∨x=3∧dual=true)
def d55 (c:u7) (kn:Int) (u:a0r):Prop:=bOK c.Dual kn u.Stored∧(u.Up=false→u.Used=0)∧(u.Up=true→bOK c.Dual kn u.Used∧(c.Live=true→u.Used=u.Stored))
def a6i (f:a01) (s:o5):Prop:=c2j f∧(s.Known=1∨s.Known=3)∧(s.Valid=1∨s.Known=3∧(s.Valid=2∨s.Valid=3∧f.Slots=2))∧s.Units.length=f.Consumers.length ∧
 ∀k,k<s.Units.length→d55 (f.Consumers.getD k default) s.Known (s.Units.getD k default)
theorem g0o:bits .andNot .i64 1 1=0:=by decide
theorem g0n:bits .andNot .i64 1 3=0:=by decide
theorem g0m:bits .andNot .i64 2 3=0:=by decide
theorem g0l:bits .andNot .i64 3 3=0:=by decide
theorem g4k:bits .or .i64 1 2=3:=by decide
theorem g7j:bits .or .i64 3 2=3:=by decide
theorem g0k:bits .and .i64 1 2=0:=by decide
theorem c36 (x a b:Int):d3l x a b=some (decide (a≤x)&&decide (x≤b)):=rfl
theorem b1g {f:a01} (h:c2j f):F_w f=some true:=by
 obtain ⟨h1,h2,h3,h4⟩:=h
 unfold F_w
 have e1:(decide (1≤f.Slots)&&decide (f.Slots≤2))=true:=a2s.2 (by omega)
 have e2:(decide ((1:Int)≤f.Consumers.length)&&decide ((f.Consumers.length:Int)≤8))=true:=a2s.2 (by omega)
 simp only [c36,xZ,e1,e2,w6,vO]
 rw [a0k (fun _=>(none:Option Bool)) f.Consumers 0 fun k a ha=>?_]
 ·rw [a1b (p:=fun _=>True) (y:=true) fun _ _=>by simp,if_pos (fun _ _=>trivial)];rfl
 ·unfold g3k
  rw [c36,xZ,a2s.2 (h4 a ha)];rfl
theorem c8p {c:u7} {s:o5} {x:Int} (hk:s.Known=1∨s.Known=3) (h:bOK c.Dual s.Known x):e1p c s x=some true:=by
 unfold e1p
 have e1:(decide (1≤x)&&decide (x≤3))=true:=a2s.2 (by rcases h with h|⟨_,h|⟨h,_⟩⟩<;>omega)
 rw [c36,xZ,e1]
 simp only [jn,grp,vQ,xZ]
 rcases h with rfl|⟨hk,rfl|⟨rfl,hd⟩⟩
 ·rcases hk with hk|hk<;>rw [hk]
  ·rw [g0o];rfl
  ·rw [g0n];rfl
 ·rw [hk,g0m];rfl
 ·rw [hk,g0l,hd];rfl
theorem a8d {f:a01} {s:o5} (h:a6i f s):F_5 f s=some true:=by
 obtain ⟨hf,hk,hv,hl,hu⟩:=h
 unfold F_5
 rw [b1g hf,xZ]
 have e1:((!decide (s.Known=1))&&(!decide (s.Known=3)))=false:=by rcases hk with hk|hk<;>rw [hk]<;>rfl
 have e2:(decide (1≤s.Valid)&&decide (s.Valid≤3))=true:=a2s.2 (by rcases hv with h|⟨_,h|⟨h,_⟩⟩<;>omega)
 have e3:(!decide ((bits .andNot .i64 s.Valid s.Known)=0)||(decide (s.Valid=3)&&decide (f.Slots=1)))=false:=by
  rcases hv with h|⟨h',h|⟨h,h''⟩⟩
  ·rcases hk with hk|hk<;>rw [h,hk]
   ·rw [g0o];rfl
   ·rw [g0n];rfl
  ·rw [h,h',g0m];rfl
  ·rw [h,h',g0l,h''];rfl
 have e4:(!decide ((s.Units.length:Int)=(f.Consumers.length:Int)))=false:=by rw [hl];simp
 simp only [jn,grp,w6,w7,e1,vO,c36,xZ,e2,e3,e4,Fl.elim]
 refine Ok.eq (Ok.bind (Ok.forI (all:=s.Units) (Q:=fun y=>y=Fl.nx ()) (fun _ _=>True) s.Units [] 0 () rfl rfl trivial (fun pre u q x hw _=>?_) fun _ _=>rfl) fun y hy=>by rw [hy];exact Ok.ret rfl)
 have hp:pre.length<s.Units.length:=by rw [hw];simp
 have hx:s.Units.getD pre.length default=u:=by rw [hw];simp
 obtain ⟨u1,u2,u3⟩:=hu _ hp
 rw [hx] at u1 u2 u3
 unfold g42
 refine Ok.chk (q9.2 ⟨by omega,by omega⟩) ?_
 rw [xW,c8p hk u1,xZ]
 cases hup:u.Up with
 | false =>
  rw [u2 hup]
  exact Ok.ret trivial
 | true =>
  obtain ⟨u4,u5⟩:=u3 hup
  rw [c8p hk u4]
  cases hl2:(f.Consumers.getD pre.length default).Live with
  | false=>exact Ok.ret trivial
  | true=>rw [u5 hl2];simp only [grp,w6,w7,Bool.false_and,vO,vQ,xZ,Bool.true_and,decide_true];exact Ok.ret trivial
theorem e7y {f:a01} {x:GStep} (hl:1≤f.Consumers.length):Ok (f3z f x) fun y=>y=true→0≤x.Unit∧x.Unit<f.Consumers.length:=by
 unfold f3z
 refine Ok.jn (P:=fun _=>True) ?_ fun j _=>?_
 ·refine Ok.ite (fun _=>Ok.ret trivial) fun _=>Ok.ite (fun _=>Ok.ret trivial) fun _=>Ok.ite (fun _=>Ok.ret trivial) fun _=>Ok.ret trivial
 ·refine Ok.ite (fun _=>Ok.ret fun e=>?_) fun _=>?_
  ·have e:x.Unit=0:=by simpa using e
   omega
  ·refine Ok.jn (P:=fun _=>True) ?_ fun j _=>?_
   ·refine Ok.ite (fun _=>Ok.ret trivial) fun _=>Ok.ite (fun _=>Ok.ret trivial) fun _=>Ok.ite (fun _=>Ok.ret trivial) fun _=>Ok.ret trivial
   ·refine Ok.ite (fun _=>Ok.grp (Ok.ret fun e=>?_)) fun _=>Ok.ret fun e=>by cases e
    simpa using e
theorem c07 {k:Int} (h:k=1∨k=3):(!decide ((bits .and .i64 k 2)=0))=true→k=3:=by
 rcases h with rfl|rfl
 ·rw [g0k];intro h;simp at h
 ·intro _;rfl
theorem e3a {f:a01} {s:o5} (h:a6i f s) {n:Nat} (hn:n<s.Units.length) {u:a0r} (hu:d55 (f.Consumers.getD n default) s.Known u):a6i f ⟨s.Known,s.Valid,s.Units.set n u⟩:=by
 obtain ⟨hf,hk,hv,hl,ho⟩:=h
 refine ⟨hf,hk,hv,by simpa using hl,fun k hk=>?_⟩
 simp only [List.length_set] at hk
 by_cases e:n=k
 ·subst e
  have:(s.Units.set n u).getD n default=u:=by simp [zE,hk]
  rw [this];exact hu
 ·have:(s.Units.set n u).getD k default=s.Units.getD k default:=by simp [zE,xR,e]
  rw [this];exact ho k hk
theorem c52 {c:u7} {k:Int} {u:a0r} (h:d55 c k u):d55 c 3 u:=by
 have up:∀{x},bOK c.Dual k x→bOK c.Dual 3 x:=fun h=>h.imp id fun h=>⟨rfl,h.2⟩
 exact ⟨up h.1,h.2.1,fun hu=>⟨up (h.2.2 hu).1,(h.2.2 hu).2⟩⟩
theorem g7v {f:a01} {s:o5} {x:GStep} (h:a6i f s) (h0:0≤x.Unit) (h1:x.Unit<f.Consumers.length):Ok (f3y f s x) fun y=>y.2=true→a6i f y.1:=by
 have h':=h
 obtain ⟨hf,hk,hv,hl,ho⟩:=h
 have hn:x.Unit.toNat<s.Units.length:=by omega
 obtain ⟨u1,u2,u3⟩:=ho _ hn
 unfold f3y f6k
 have l8:=hf.2.2.1
 rw [o8 (a04 (by omega)),xZ]
 simp only
 refine Ok.chk (q9.2 ⟨h0,by omega⟩) (Ok.chk (q9.2 ⟨h0,h1⟩) ?_)
 generalize hU:s.Units.getD x.Unit.toNat default=U at *
 generalize hC:f.Consumers.getD x.Unit.toNat default=C at *
 obtain ⟨D,hD⟩:∃D:a0r→Prop,D=fun V=>bOK C.Dual s.Known V.Stored∧(V.Up=false→V.Used=0)∧(V.Up=true→C.Live=true∨bOK C.Dual s.Known V.Used):=⟨_,rfl⟩
 refine Ok.jn (P:=fun o:Fl (Bool×a0r) (o5×Bool)=>o.elim (fun j=>j.1=true→D j.2) fun r=>r.2=true→a6i f r.1) ?_ fun o hO=>?_
 ·refine Ok.ite (fun _=>Ok.ret fun e=>?_) fun _=>Ok.ite (fun _=>Ok.grp (Ok.grp (Ok.ret fun e=>?_))) fun _=>Ok.ite (fun _=>Ok.grp (Ok.ret fun e=>?_)) fun _=>Ok.ite (fun _=>Ok.ret fun e=>?_) fun _=>Ok.ite (fun _=>?_) fun _=>Ok.ite (fun _=>Ok.ret fun e=>?_) fun _=>Ok.ite (fun _=>Ok.ret fun e=>?_) fun _=>Ok.ite (fun _=>Ok.ret fun e=>?_) fun _=>Ok.ret fun e=>by cases e
  · -- make
   have hor:bits .or .i64 s.Known 2=3:=by rcases hk with hk|hk<;>rw [hk];exact g4k;exact g7j
   refine ⟨hf,.inr hor,?_,hl,fun k hk=>?_⟩
   ·rcases hv with hv|hv
    ·exact .inl hv
    ·exact .inr ⟨hor,hv.2⟩
   ·simp only [hor];exact c52 (ho k hk)
  · -- enable
   simp only [wG] at e
   obtain ⟨⟨e1,e2⟩,e3⟩:=e
   have e1:=c07 hk e1
   have e2:s.Valid=1:=by simpa using e2
   have e3:f.Slots=2:=by simpa using e3
   refine ⟨hf,hk,.inr ⟨e1,.inr ⟨?_,e3⟩⟩,hl,ho⟩
   simp only [e2];exact g4k
  · -- swap
   simp only [wG] at e
   exact ⟨hf,hk,.inr ⟨c07 hk e.1,.inl rfl⟩,hl,ho⟩
  · -- revoke
   have e:s.Valid=3:=by simpa using e
   refine ⟨hf,hk,.inr ⟨?_,.inl rfl⟩,hl,ho⟩
   rcases hv with hv|hv
   ·omega
   ·exact hv.1
  · -- give
   refine Ok.jn (P:=fun j:Bool=>j=true→s.Known=3) (Ok.ite (fun c=>Ok.ret fun _=>c07 hk c) fun _=>Ok.ret fun e=>by cases e) fun j hj=>?_
   refine Ok.ite (fun c=>Ok.ret fun e=>?_) fun c=>Ok.ret fun e=>?_
   ·rw [hD]
    exact ⟨.inr ⟨hj e,.inr ⟨rfl,c⟩⟩,u2,fun hu=>.inr (u3 hu).1⟩
   ·rw [hD]
    exact ⟨.inr ⟨hj e,.inl rfl⟩,u2,fun hu=>.inr (u3 hu).1⟩
  · -- drop
   have e:U.Stored=3:=by simpa using e
   have hk3:s.Known=3:=by
    rcases u1 with u1|u1
    ·omega
    ·exact u1.1
   rw [hD]
   exact ⟨.inr ⟨hk3,.inl rfl⟩,u2,fun hu=>.inr (u3 hu).1⟩
  · -- stop
   rw [hD]
   exact ⟨u1,fun _=>rfl,fun hu=>by cases hu⟩
  · -- start
   rw [hD]
   exact ⟨u1,fun hu=>(by cases hu),fun _=>.inr u1⟩
 ·cases o with
  | ex r=>exact Ok.ret hO
  | nx j =>
   simp only [Fl.elim] at hO ⊢
   refine Ok.jn (P:=fun V:a0r=>j.1=true→d55 C s.Known V) (Ok.grp (Ok.ite (fun c=>Ok.ret fun e=>?_) fun c=>Ok.ret fun e=>?_)) fun V hV=>Ok.chk (q9.2 ⟨h0,by omega⟩) (Ok.ret fun e=>e3a h' hn (by rw [hC];exact hV e))
   ·have:=hO e
    rw [hD] at this
    simp only [wG] at c
    exact ⟨this.1,fun hu=>(by rw [c.2] at hu;cases hu),fun _=>⟨this.1,fun _=>rfl⟩⟩
   ·have:=hO e
    rw [hD] at this
    refine ⟨this.1,this.2.1,fun hu=>⟨?_,fun hl=>?_⟩⟩
    ·rcases this.2.2 hu with hl|hb
     ·rw [hl,hu] at c;cases c
     ·exact hb
    ·rw [hl,hu] at c;cases c
theorem d9x {f:a01} {s:o5} {x:GStep} (h:a6i f s):Ok (F_m f s x) fun y=>y.2=0→a6i f y.1:=by
 unfold F_m
 rw [a8d h,xZ]
 simp only [w6,vO]
 refine Ok.bind (e7y h.1.2.1) fun k hk=>Ok.ite (fun _=>Ok.ret fun e=>by simp at e) fun c=>?_
 have hu:=hk (by simpa using c)
 refine Ok.bind (g7v h hu.1 hu.2) fun y hy=>Ok.ite (fun _=>Ok.ret fun e=>by simp at e) fun c=>Ok.ret fun _=>hy (by simpa using c)
theorem b8u {f:a01} (h:c2j f) (p:Int):F_l f p=some (b7e (fun c:u7=>decide (c.Pool=p)) 0 f.Consumers):=by
 unfold F_l
 rw [b1g h,xZ]
 simp only [w6,vO]
 rw [show (0:Int)=((0:Nat):Int) from rfl,a3o (fun c:u7=>decide (c.Pool=p)) 24 (by omega) f.Consumers 0 [] (by have:=h.2.2.1;simp;omega) fun k a x ha hx=>?_]
 ·rfl
 ·unfold g3j
  cases decide (a.Pool=p) with
  | false=>rfl
  | true=>simp only [vQ];rw [o8 (a04 (by simp;omega))]
theorem d6i {f:a01} (h:c2j f):Ok (f3x f) fun y=>y.length≤8:=by
 unfold f3x
 refine Ok.bind (Ok.loop (Q:=fun y:List Int=>y.length≤8) (fun x=>0≤x.1∧x.1≤8∧(x.2.length:Int)≤x.1) (fun x=>(8 - x.1).toNat) (fun x hx=>?_) _ ⟨by show (0:Int)≤0;omega,by show (0:Int)≤8;omega,by show ((0:Nat):Int)≤0;omega⟩) fun r hr=>Ok.ret hr
 obtain ⟨k,out⟩:=x
 obtain ⟨h1,h2,h3⟩:=hx
 simp only at h1 h2 h3
 unfold g3h
 refine Ok.ite (fun c=>?_) fun c=>Ok.ret (by show out.length≤8;omega)
 have c:k≤7:=by simpa using c
 refine Ok.jn (P:=fun j:List Int=>j.length≤out.length+1) ?_ fun j hj=>Ok.chk (u6 (by simp only;omega) (by simp only;omega)) (Ok.ret ⟨⟨by show 0≤k+1;omega,by show k+1≤8;omega,by show (j.length:Int)≤k+1;omega⟩,by show (8 - (k+1)).toNat<(8 - k).toNat;omega⟩)
 rw [b8u h,xZ]
 exact Ok.ite (fun _=>Ok.chk (a04 (by simp;omega)) (Ok.ret (by simp))) fun _=>Ok.ret (by simp)
theorem c9u {f:a01} {s:o5} (h:a6i f s) (u:Int):Ok (f2b f s u) fun _=>True:=by
 unfold f2b
 rw [a8d h,xZ]
 simp only [vQ]
 have:=h.1.2.2.1
 have:=h.2.2.2.1
 refine Ok.chk (u6 (by omega) (by omega)) ?_
 rw [c36,xZ]
 refine Ok.ite (fun c=>?_) fun _=>Ok.ret trivial
 have c:=a2s.1 c
 exact Ok.chk (q9.2 ⟨c.1,by omega⟩) (Ok.ite (fun _=>Ok.chk (q9.2 ⟨c.1,by omega⟩) (Ok.ret trivial)) fun _=>Ok.ret trivial)
theorem c0p {f:a01} {s:o5} (h:a6i f s):Ok (e2a f s) fun y=>y.length≤8:=by
 unfold e2a
 refine Ok.bind (d6i h.1) fun ps hp=>Ok.bind (Ok.foldI (all:=ps) (Q:=fun y=>y.length≤8) (fun pre x=>x.length≤pre.length) ps [] 0 [] rfl rfl (by simp) (fun pre x r q hw hq=>?_) fun y hy=>by omega) fun y hy=>Ok.ret hy
 have hl:pre.length<ps.length:=by rw [hw];simp
 unfold g3g
 rw [b8u h.1,xZ]
 refine Ok.bind (Ok.for (Q:=fun o:Fl Unit (List Int)=>o.elim (fun _=>True) fun y=>y.length≤q.length+1) (fun _=>True) _ 0 () trivial (fun k a u _ _=>?_) fun _ _=>trivial) fun o ho=>?_
 ·unfold g41
  exact Ok.bind (c9u h a) fun y _=>Ok.ite (fun _=>Ok.chk (a04 (by simp;omega)) (Ok.ret (by simp [Fl.elim]))) fun _=>Ok.ret trivial
 ·cases o with
  | nx _=>exact Ok.ret (by simp;omega)
  | ex y=>exact Ok.ret (by have:y.length≤q.length+1:=ho;simp;omega)
theorem e3d {f:a01} {s t:o5} (h:a6i f s) (ht:a6i f t):Ok (f3w f s t) fun _=>True:=by
 unfold f3w
 refine Ok.bind (c0p ht) fun y _=>Ok.bind (c0p h) fun z _=>Ok.bind (Ok.for (Q:=fun _=>True) (fun _=>True) z 0 () trivial (fun k a u _ _=>?_) fun _ _=>trivial) fun o _=>by cases o<;>exact Ok.ret trivial
 unfold g3f
 refine Ok.bind (Ok.fold (Q:=fun _=>True) (fun _=>True) y 0 false trivial (fun k b x _ _=>Ok.ret trivial) fun _ _=>trivial) fun b _=>Ok.ite (fun _=>Ok.ret trivial) fun _=>Ok.ret trivial
theorem f0t {f:a01} {s:o5} {x:GStep} (h:a6i f s):Ok (f2a f s x) fun y=>y=true→Ok (F_m f s x) fun z=>a6i f z.1:=by
 unfold f2a
 obtain ⟨y,e,hy⟩:=d9x (x:=x) h
 rw [e,xZ]
 refine Ok.jn (P:=fun j:Bool=>j=true→y.2=0) ?_ fun j hj=>Ok.ret fun e1=>⟨y,rfl,hy (hj e1)⟩
 refine Ok.ite (fun c=>Ok.bind (e3d h (hy (by simpa using c))) fun _ _=>Ok.ret fun _=>by simpa using c) fun _=>Ok.ret fun e=>by cases e
theorem c8b {f:a01} {s:o5} (h:a6i f s):Ok (f3v f s) fun l=>l.length≤64∧∀x∈l,Ok (F_m f s x) fun z=>a6i f z.1:=by
 have l8:=h.1.2.2.1
 unfold f3v
 refine Ok.bind (Ok.loop (Q:=fun l:List GStep=>l.length≤64∧∀x∈l,Ok (F_m f s x) fun z=>a6i f z.1) (fun x=>1≤x.1∧x.1≤9∧(x.2.length:Int)≤8*(x.1 - 1)∧∀y∈x.2,Ok (F_m f s y) fun z=>a6i f z.1) (fun x=>(9 - x.1).toNat) (fun x hx=>?_) _ ⟨by show (1:Int)≤1;omega,by show (1:Int)≤9;omega,by show ((0:Nat):Int)≤8*(1 - 1);omega,by simp⟩) fun r hr=>Ok.ret hr
 obtain ⟨k,out⟩:=x
 obtain ⟨h1,h2,h3,h4⟩:=hx
 simp only at h1 h2 h3 h4
 unfold g3e
 refine Ok.ite (fun c=>?_) fun c=>Ok.ret ⟨by show out.length≤64;omega,h4⟩
 have c:k≤8:=by simpa using c
 refine Ok.bind (Ok.foldI (all:=f.Consumers) (Q:=fun y:List GStep=>y.length≤out.length+8∧∀x∈y,Ok (F_m f s x) fun z=>a6i f z.1) (fun pre y=>y.length≤out.length+pre.length∧∀x∈y,Ok (F_m f s x) fun z=>a6i f z.1) f.Consumers [] 0 out rfl rfl ⟨by simp,h4⟩ (fun pre a r y hw hy=>?_) fun y hy=>⟨by omega,hy.2⟩) fun y hy=>Ok.chk (u6 (by simp only;omega) (by simp only;omega)) (Ok.ret ⟨⟨by show 1≤k+1;omega,by show k+1≤9;omega,by show (y.length:Int)≤8*(k+1 - 1);omega,hy.2⟩,by show (9 - (k+1)).toNat<(9 - k).toNat;omega⟩)
 have hp:pre.length<f.Consumers.length:=by rw [hw];simp
 unfold g40
 refine Ok.bind (f0t h) fun b hb=>Ok.ite (fun c=>Ok.chk (a04 (by simp;omega)) (Ok.ret ⟨by simp;omega,fun x hx=>?_⟩)) fun _=>Ok.ret ⟨by simp;omega,hy.2⟩
 simp only [wN,xI] at hx
 rcases hx with hx|rfl
 ·exact hy.2 x hx
 ·exact hb c
theorem d5e {f:a01} (h:c2j f):Ok (f3m f) fun y=>a6i f y.1:=by
 unfold f3m
 rw [b1g h,xZ]
 simp only [w6,vO]
 have l8:=h.2.2.1
 refine Ok.bind (Ok.foldI (all:=f.Consumers) (Q:=fun y:List a0r=>y.length=f.Consumers.length∧∀u∈y,u=⟨true,1,1⟩) (fun pre y=>y.length=pre.length∧∀u∈y,u=⟨true,1,1⟩) f.Consumers [] 0 [] rfl rfl ⟨rfl,by simp⟩ (fun pre a r y hw hy=>?_) fun y hy=>hy) fun y hy=>Ok.ret ⟨h,.inl rfl,.inl rfl,hy.1,fun k hk=>?_⟩
 ·have hp:pre.length<f.Consumers.length:=by rw [hw];simp
  unfold g3i
  refine Ok.chk (a04 (by simp;omega)) (Ok.ret ⟨by simp;omega,fun u hu=>?_⟩)
  simp only [wN,xI] at hu
  rcases hu with hu|rfl
  ·exact hy.2 u hu
  ·rfl
 ·have hm:y.getD k default∈y:=by
   have hk:k<y.length:=hk
   simp [zE,hk]
  show d55 _ 1 (y.getD k default)
  rw [hy.2 _ hm]
  exact ⟨.inl rfl,fun hu=>(by cases hu),fun _=>⟨.inl rfl,fun _=>rfl⟩⟩
theorem d8h {t:x8} {f:a01} (h:TOK t) (hf:c2j f):Ok (f2o t f) fun y=>a6i f y.1∧TOK y.2:=by
 unfold f2o
 refine Ok.bind (d5e hf) fun y hy=>Ok.bind (a02 h (by omega)) fun z hz=>Ok.bind (Ok.loop (Q:=fun r:Sum (o5×x8) (o5×x8)=>Sum.elim (fun u=>a6i f u.1∧TOK u.2) (fun u=>a6i f u.1∧TOK u.2) r) (fun x=>0≤x.1∧x.1≤16∧a6i f x.2.1∧TOK x.2.2) (fun x=>x.1.toNat) (fun x hx=>?_) _ ⟨hz.1,by show z.1≤16;omega,hy,hz.2.2⟩) fun r hr=>by cases r<;>exact Ok.ret hr
 obtain ⟨k,s,t⟩:=x
 obtain ⟨h1,h2,h3,h4⟩:=hx
 simp only at h1 h2 h3 h4
 unfold g28
 refine Ok.ite (fun c=>?_) fun c=>Ok.ret ⟨h3,h4⟩
 have c:0<k:=by simpa using c
 refine Ok.bind (c8b h3) fun l hl=>Ok.ite (fun _=>Ok.ret ⟨h3,h4⟩) fun c1=>?_
 have c1:¬(l.length:Int)=0:=by simpa using c1
 refine Ok.bind (a02 h4 (by omega)) fun i hi=>Ok.chk (q9.2 ⟨hi.1,hi.2.1⟩) ?_
 have hm:l.getD i.1.toNat default∈l:=by
  have:i.1.toNat<l.length:=by have:=hi.1;have:=hi.2.1;omega
  simp [zE,this]
 refine Ok.bind (hl.2 _ hm) fun w hw=>Ok.chk (u6 (by simp only;omega) (by simp only;omega)) (Ok.ret ⟨⟨by show 0≤k - 1;omega,by show k - 1≤16;omega,hw,hi.2.2⟩,by show (k - 1).toNat<k.toNat;omega⟩)
theorem d2c {t:x8} (h:TOK t):Ok (f3p t 3) fun y=>c2j y.1∧TOK y.2:=by
 unfold f3p
 refine Ok.bind (a0b h (by omega) (by omega) (by omega)) fun a ha=>Ok.bind (a0b ha.2.2 (by omega) (by omega) (by omega)) fun b hb=>Ok.bind (Ok.loop (Q:=fun r:Int×List u7×x8=>c2j ⟨r.1,r.2.1⟩∧TOK r.2.2) (fun x=>0≤x.1∧(x.2.2.1.length:Int)+x.1≤3∧1≤(x.2.2.1.length:Int)+x.1∧x.2.1=a.1∧(∀c∈x.2.2.1,0≤c.Pool∧c.Pool≤7)∧TOK x.2.2.2) (fun x=>x.1.toNat) (fun x hx=>?_) _ ⟨by show 0≤b.1;omega,by show ((0:Nat):Int)+b.1≤3;omega,by show 1≤((0:Nat):Int)+b.1;omega,rfl,by simp,hb.2.2⟩) fun r hr=>Ok.ret hr
 obtain ⟨k,sl,out,t⟩:=x
 obtain ⟨h1,h2,h3,h4,h5,h6⟩:=hx
 simp only at h1 h2 h3 h4 h5 h6
 unfold g29
 refine Ok.ite (fun c=>?_) fun c=>Ok.ret ⟨?_,h6⟩
 case refine_2 =>
  have c:¬0<k:=by simpa using c
  exact ⟨by show sl=1∨sl=2;omega,by show 1≤out.length;omega,by show out.length≤8;omega,h5⟩
 have c:0<k:=by simpa using c
 refine Ok.bind (a02 h6 (by omega)) fun p hp=>Ok.bind (a02 hp.2.2 (by omega)) fun q hq=>Ok.bind (a02 hq.2.2 (by omega)) fun r hr=>Ok.chk (a04 (by simp;omega)) (Ok.chk (u6 (by simp only;omega) (by simp only;omega)) (Ok.ret ⟨⟨by show 0≤k - 1;omega,by simp;omega,by simp;omega,h4,fun c hc=>?_,hr.2.2⟩,by show (k - 1).toNat<k.toNat;omega⟩))
 simp only [wN,xI] at hc
 rcases hc with hc|rfl
 ·exact h5 c hc
 ·exact ⟨hp.1,by show p.1≤7;have:=hp.2.1;omega⟩
theorem e91 {t:x8} (h:TOK t):Ok (f4f t 3) fun y=>c2j y.1∧TOK y.2:=by
 unfold f4f
 refine Ok.bind (d2c h) fun y hy=>Ok.bind (Ok.foldI (all:=y.1.Consumers) (Q:=fun l:List u7=>c2j ⟨y.1.Slots,l⟩) (fun pre l=>c2j ⟨y.1.Slots,l⟩∧l.length=y.1.Consumers.length) y.1.Consumers [] 0 _ rfl rfl ⟨hy.1,rfl⟩ (fun pre a r l hw hl=>?_) fun l hl=>hl.1) fun l hl=>Ok.ret ⟨hl,hy.2⟩
 obtain ⟨hf,hl⟩:=hl
 have hp:pre.length<l.length:=by rw [hl,hw];simp
 have hi:inb (pre.length:Int) l.length=true:=q9.2 ⟨by omega,by omega⟩
 have set1:∀c:u7,0≤c.Pool∧c.Pool≤7→c2j ⟨y.1.Slots,l.set pre.length c⟩∧(l.set pre.length c).length=y.1.Consumers.length:=fun c hc =>
  ⟨⟨hf.1,by simpa using hf.2.1,by simpa using hf.2.2.1,fun d hd=>by
   rcases List.mem_or_eq_of_mem_set hd with hd|rfl
   ·exact hf.2.2.2 d hd
   ·exact hc⟩,by simpa using hl⟩
 have hpl:0≤(l.getD pre.length default).Pool∧(l.getD pre.length default).Pool≤7:=hf.2.2.2 _ (by simp [zE,hp])
 unfold g45
 simp only [xW,List.length_set]
 refine Ok.chk hi ?_
 rw [b8u hf,xZ]
 refine Ok.ite (fun _=>Ok.chk hi (Ok.chk hi (Ok.ite (fun _=>Ok.chk hi (Ok.ret (set1 _ hpl))) fun _=>Ok.chk hi (Ok.ret (set1 _ hpl))))) fun _=>Ok.ret ⟨hf,hl⟩
theorem c1u {α:Type} {body:Int→α→Unit→Option (Fl Unit Int)} (p:α→Bool):∀(xs:List α) (k:Int),0≤k→(∀k a,a∈xs→body k a ()=some (bif p a then .ex k else .nx ())) →
  (xs.any p=false→a10 body xs k ()=some (.nx ()))∧(xs.any p=true→∃i,0≤i∧a10 body xs k ()=some (.ex i))
 | [],k,hk,h=>⟨fun _=>rfl,fun e=>by simp at e⟩
 | x::r,k,hk,h=>by
  simp only [a10,h k x (by simp),xZ,List.any_cons]
  cases hp:p x with
  | true=>exact ⟨fun e=>by simp at e,fun _=>⟨k,hk,rfl⟩⟩
  | false =>
   simp only [vO,w7]
   exact c1u p r (k+1) (by omega) fun k a ha=>h k a (by simp [ha])
theorem a2j {α:Type} {body:Int→α→Unit→Option (Fl Unit Int)} (p:α→Bool) (xs:List α) (h:∀k a,a∈xs→body k a ()=some (bif p a then .ex k else .nx ())) :
  (((a10 body xs 0 ()).bind fun o=>o.elim (fun _=>some (-1)) (fun r=>some r)).bind fun y:Int=>some (decide (0≤y)))=some (xs.any p):=by
 obtain ⟨h1,h2⟩:=c1u p xs 0 (vN 0) h
 cases he:xs.any p with
 | false=>rw [h1 he];rfl
 | true =>
  obtain ⟨i,hi,e⟩:=h2 he
  rw [e]
  simp only [xZ,Fl.elim]
  rw [wV hi]
def a5p (c:l9):Prop:=(1≤c.Replicas.length∧c.Replicas.length≤5)∧(1≤c.Sets.length∧c.Sets.length≤121)∧c.Snapshots.length≤120∧(∀s∈c.Sets,0≤s∧s≤3) ∧
 (∀r∈c.Replicas,0≤r.Generation∧r.Generation≤(c.Sets.length:Int) - 1)∧∀g∈c.Snapshots,0≤g∧g≤(c.Sets.length:Int) - 1
theorem a5m (x a b:Int):F_6 x a b=some (decide (a≤x)&&decide (x≤b)):=rfl
theorem c3i (x a b:Int):e07 x a b=some (decide (a≤x)&&decide (x≤b)):=rfl
theorem b5h {c:l9} (h:a5p c):F_2 c=some true:=by
 obtain ⟨h1,h2,h3,h4,h5,h6⟩:=h
 have e1:(decide ((1:Int)≤c.Replicas.length)&&decide ((c.Replicas.length:Int)≤5))=true:=a2s.2 (by omega)
 have e2:(decide ((1:Int)≤c.Sets.length)&&decide ((c.Sets.length:Int)≤121))=true:=a2s.2 (by omega)
 have e3:decide ((120:Int)<c.Snapshots.length)=false:=by simp;omega
 unfold F_2
 simp only [jn,grp,a5m,xZ,e1,e2,e3,w6,vO,Bool.or_false,Fl.elim]
 rw [a0k (fun _=>(none:Option Bool)) c.Sets 0 fun k a ha=>?_]
 ·rw [a1b (p:=fun _=>True) (y:=true) fun _ _=>by simp,if_pos (fun _ _=>trivial),xZ]
  simp only [flO]
  rw [a0k (fun _=>(none:Option Bool)) c.Replicas 0 fun k a ha=>?_]
  ·rw [a1b (p:=fun _=>True) (y:=true) fun _ _=>by simp,if_pos (fun _ _=>trivial),xZ]
   simp only [flO]
   rw [a0k (fun _=>(none:Option Bool)) c.Snapshots 0 fun k a ha=>?_]
   ·rw [a1b (p:=fun _=>True) (y:=true) fun _ _=>by simp,if_pos (fun _ _=>trivial)];rfl
   ·unfold f3l
    rw [o8 (u6 (by omega) (by omega)),a5m,xZ,a2s.2 (h6 a ha)];rfl
  ·unfold f3u
   rw [o8 (u6 (by omega) (by omega)),a5m,xZ,a2s.2 (h5 a ha)];rfl
 ·unfold f4d
  rw [a5m,xZ,a2s.2 (h4 a ha)];rfl
theorem a8u {α:Type} [Inhabited α] {l:List α} {i:Nat} (h:i<l.length):l.getD i default∈l:=by simp [zE,h]
theorem d9w {c:l9} {x:a0a} (h:a5p c):Ok (F_x c x) fun y=>y.2=0→a5p y.1:=by
 have h':=h
 obtain ⟨h1,h2,h3,h4,h5,h6⟩:=h
 unfold F_x
 rw [b5h h',xZ]
 simp only [w6,vO]
 unfold e1o
 rw [o8 (a04 (by omega)),o8 (a04 (by omega)),o8 (a04 (by omega)),xZ]
 simp only
 have err:∀{α β:Type} {e:Int} (he:e≠0) {P:α→Prop},Ok (some (Fl.ex (l9.mk false [] [] [],e):Fl α (l9×Int))) fun o=>o.elim P fun r=>r.2=0→a5p r.1:=fun {α β e} he {P}=>Ok.ret fun h0=>absurd h0 he
 refine Ok.jn (P:=fun o:Fl a0a (l9×Int)=>o.elim (fun _=>True) fun r=>r.2=0→a5p r.1) ?_ fun o ho=>?_
 ·refine Ok.ite (fun _=>?_) fun _=>?_
  ·refine Ok.ite (fun _=>err (β:=Unit) (by decide)) fun _=>?_
   rw [a5m,xZ]
   refine Ok.ite (fun _=>err (β:=Unit) (by decide)) fun c1=>Ok.ite (fun _=>err (β:=Unit) (by decide)) fun c2=>Ok.chk (a04 (by simp;omega)) (Ok.ret fun _=>?_)
   have c1:0≤x.Bits∧x.Bits≤3:=a2s.1 (by simpa using c1)
   have c2:¬(120:Int)<c.Sets.length:=by simpa using c2
   refine ⟨h1,⟨by simp,by simp;omega⟩,h3,fun s hs=>?_,fun r hr=>?_,fun g hg=>?_⟩
   ·simp only [wN,xI] at hs
    rcases hs with hs|rfl
    ·exact h4 s hs
    ·exact c1
   ·have:=h5 r hr;simp;omega
   ·have:=h6 g hg;simp;omega
  ·refine Ok.jn (P:=fun _=>True) (Ok.ite (fun _=>Ok.ret trivial) fun _=>Ok.ret trivial) fun j _=>Ok.ite (fun _=>Ok.ret trivial) fun _=>Ok.ite (fun _=>Ok.ret trivial) fun _=>Ok.ret trivial
 ·cases o with
  | ex r=>exact Ok.ret ho
  | nx j =>
   simp only [Fl.elim]
   refine Ok.jn (P:=fun o:Fl Unit (l9×Int)=>o.elim (fun _=>(2≤x.Kind∧x.Kind≤4)∧(0≤x.Replica∧x.Replica≤(c.Replicas.length:Int) - 1)∧(x.Kind=4→0≤x.Snapshot∧x.Snapshot≤(c.Snapshots.length:Int) - 1)) fun r=>r.2=0→a5p r.1) ?_ fun o ho=>?_
   ·refine Ok.ite (fun _=>err (β:=Unit) (by decide)) fun _=>?_
    rw [a5m,xZ]
    refine Ok.ite (fun _=>err (β:=Unit) (by decide)) fun c1=>Ok.chk (u6 (by omega) (by omega)) ?_
    have c1:2≤x.Kind∧x.Kind≤4:=a2s.1 (by simpa using c1)
    rw [a5m,xZ]
    refine Ok.ite (fun _=>err (β:=Unit) (by decide)) fun c2=>?_
    have c2:=a2s.1 (by simpa using c2)
    refine Ok.ite (fun c3=>Ok.chk (u6 (by omega) (by omega)) ?_) fun c3=>Ok.ret ⟨c1,c2,fun e=>by rw [e] at c3;simp at c3⟩
    rw [a5m,xZ]
    refine Ok.ite (fun _=>err (β:=Unit) (by decide)) fun c4=>Ok.ret ⟨c1,c2,fun _=>a2s.1 (by simpa using c4)⟩
   ·cases o with
    | ex r=>exact Ok.ret ho
    | nx u =>
     obtain ⟨k1,k2,k3⟩:=ho
     simp only
     have hr:x.Replica.toNat<c.Replicas.length:=by omega
     refine Ok.chk (q9.2 ⟨k2.1,by omega⟩) (Ok.jn (P:=fun o:Fl (Bool×List p9×List Int) (l9×Int)=>o.elim (fun j=>a5p ⟨j.1,c.Sets,j.2.1,j.2.2⟩) fun r=>r.2=0→a5p r.1) ?_ fun o ho=>by cases o with|nx j=>exact Ok.ret fun _=>ho|ex r=>exact Ok.ret ho)
     have setR:∀(b:Bool) (q:p9),0≤q.Generation∧q.Generation≤(c.Sets.length:Int) - 1→a5p ⟨b,c.Sets,c.Replicas.set x.Replica.toNat q,c.Snapshots⟩:=fun b q hq=>by
      refine ⟨by simpa using h1,h2,h3,h4,fun r hr=>?_,h6⟩
      rcases List.mem_or_eq_of_mem_set hr with hr|rfl
      ·exact h5 r hr
      ·exact hq
     refine Ok.ite (fun c1=>Ok.chk (u6 (by omega) (by omega)) (Ok.ret (setR _ _ ⟨by show (0:Int)≤(c.Sets.length:Int) - 1;omega,vN _⟩))) fun c1=>Ok.ite (fun c2=>?_) fun c2=>?_
     ·refine Ok.ite (fun _=>err (β:=Unit) (by decide)) fun c3=>Ok.chk (a04 (by simp;omega)) (Ok.ret ⟨h1,h2,?_,h4,h5,fun g hg=>?_⟩)
      ·have c3:¬(120:Int)≤c.Snapshots.length:=by simpa using c3
       simp;omega
      ·simp only [wN,xI] at hg
       rcases hg with hg|rfl
       ·exact h6 g hg
       ·exact h5 _ (a8u hr)
     ·have c1:¬x.Kind=2:=by simpa using c1
      have c2:¬x.Kind=3:=by simpa using c2
      have:=k3 (by omega)
      exact Ok.chk (q9.2 ⟨this.1,by omega⟩) (Ok.ret (setR _ _ (h6 _ (a8u (by omega)))))
theorem d2i {t:x8} {c:l9} (h:TOK t) (hc:a5p c):Ok (f0y t c) fun y=>TOK y.2:=by
 obtain ⟨h1,h2,h3,_⟩:=hc
 unfold f0y
 refine Ok.bind (a0b h (by omega) (by omega) (by omega)) fun y hy=>Ok.ite (fun _=>Ok.bind (a5y hy.2.2 (by simp)) fun z hz=>Ok.ret hz.2) fun _=>Ok.ite (fun _=>Ok.bind (a02 hy.2.2 (by omega)) fun z hz=>Ok.chk (u6 (by omega) (by omega)) (Ok.bind (a02 hz.2.2 (by omega)) fun w hw=>Ok.ret hw.2.2)) fun _=>Ok.bind (a02 hy.2.2 (by omega)) fun z hz=>Ok.ret hz.2.2
theorem c41 {t:x8} (h:TOK t):Ok (f3o t) fun y=>a5p y.1∧TOK y.2:=by
 unfold f3o
 refine Ok.bind (a0b h (by omega) (by omega) (by omega)) fun a ha=>Ok.bind (a5y ha.2.2 (by simp)) fun b hb=>Ok.bind (a02 hb.2 (by omega)) fun d hd=>Ok.bind (P:=fun y:l9×Int=>a5p y.1) ?_ fun y hy=>Ok.bind (a02 hd.2.2 (by omega)) fun e he=>Ok.bind (Ok.loop (Q:=fun r:l9×x8=>a5p r.1∧TOK r.2) (fun x=>0≤x.1∧x.1≤12∧a5p x.2.1∧TOK x.2.2) (fun x=>x.1.toNat) (fun x hx=>?_) _ ⟨he.1,by show e.1≤12;omega,hy,he.2.2⟩) fun r hr=>Ok.ret hr
 ·have hb0:0≤b.1∧b.1≤3:=by have:=hb.1;simp only [w4,List.not_mem_nil,or_false] at this;omega
  unfold f7k
  rw [a5m,xZ,a2s.2 (by omega),a5m]
  simp only [w6,vO,xZ]
  rw [a2s.2 hb0]
  simp only [w6,vO]
  refine Ok.bind (Ok.loop (Q:=fun r:Bool×List p9=>(r.2.length:Int)=a.1∧∀q∈r.2,q=⟨0,true⟩) (fun x=>x.1=x.2.2.length∧x.1≤a.1∧∀q∈x.2.2,q=⟨0,true⟩) (fun x=>(a.1 - x.1).toNat) (fun x hx=>?_) _ ⟨rfl,by show (0:Int)≤a.1;omega,by simp⟩) fun r hr=>Ok.ret ⟨⟨by show 1≤r.2.length;omega,by show r.2.length≤5;omega⟩,⟨by simp,by simp⟩,by simp,fun s hs=>(by simp only [xI] at hs;subst hs;exact hb0),fun q hq=>(by rw [hr.2 q hq];simp),by simp⟩
  obtain ⟨k,f,out⟩:=x
  obtain ⟨q1,q2,q3⟩:=hx
  simp only at q1 q2 q3
  unfold g3d
  refine Ok.ite (fun c=>?_) fun c=>Ok.ret ⟨?_,q3⟩
  ·have c:k<a.1:=by simpa using c
   refine Ok.chk (a04 (by simp;omega)) (Ok.chk (u6 (by simp only;omega) (by simp only;omega)) (Ok.ret ⟨⟨by simp;omega,by show k+1≤a.1;omega,fun q hq=>?_⟩,by show (a.1 - (k+1)).toNat<(a.1 - k).toNat;omega⟩))
   simp only [wN,xI] at hq
   exact hq.elim (q3 q) id
  ·have c:¬k<a.1:=by simpa using c
   show (out.length:Int)=a.1;omega
 ·obtain ⟨k,c,t⟩:=x
  obtain ⟨q1,q2,q3,q4⟩:=hx
  simp only at q1 q2 q3 q4
  unfold g27
  refine Ok.ite (fun hk=>?_) fun _=>Ok.ret ⟨q3,q4⟩
  have hk:0<k:=by simpa using hk
  refine Ok.jn (P:=fun j:l9×x8=>a5p j.1∧TOK j.2) (Ok.bind (d2i q4 q3) fun y hy=>Ok.bind (d9w q3) fun z hz=>Ok.ite (fun c=>Ok.ret ⟨hz (by simpa using c),hy⟩) fun _=>Ok.ret ⟨q3,hy⟩) fun j hj=>Ok.chk (u6 (by simp only;omega) (by simp only;omega)) (Ok.ret ⟨⟨by show 0≤k - 1;omega,by show k - 1≤12;omega,hj⟩,by show (k - 1).toNat<k.toNat;omega⟩)
theorem c0z {c:l9} (h:a5p c):d4n c=some 0:=by
 obtain ⟨h1,h2,h3,h4,h5,h6⟩:=h
 have e1:(decide ((1:Int)≤c.Replicas.length)&&decide ((c.Replicas.length:Int)≤5))=true:=a2s.2 (by omega)
 have e2:(decide ((1:Int)≤c.Sets.length)&&decide ((c.Sets.length:Int)≤121))=true:=a2s.2 (by omega)
 have e3:decide ((120:Int)<c.Snapshots.length)=false:=by simp;omega
 have a1:d4r c.Sets=some false:=by
  unfold d4r f1f
  rw [a2j (fun _=>false) c.Sets fun k a ha=>?_]
  ·simp
  ·unfold f6o f1g
   rw [c3i,xZ,a2s.2 (h4 a ha)];rfl
 have one:∀g,0≤g∧g≤(c.Sets.length:Int) - 1→d4q g c=some false:=fun g hg=>by
  unfold d4q
  rw [o8 (u6 (by omega) (by omega)),c3i,xZ,a2s.2 hg];rfl
 have a2:d4p c.Snapshots c=some false:=by
  unfold d4p f2q
  rw [a2j (fun _=>false) c.Snapshots fun k a ha=>?_]
  ·simp
  ·unfold f6n
   rw [one a (h6 a ha)];rfl
 have a3:d4o c.Replicas c=some false:=by
  unfold d4o f2p
  rw [a2j (fun _=>false) c.Replicas fun k a ha=>?_]
  ·simp
  ·unfold f6m f1e
   rw [one a.Generation (h5 a ha)];rfl
 unfold d4n
 simp only [c3i,xZ,e1,e2,e3,grp,w6,vO,Bool.or_false,a1,a2,a3]
def hasB (c:l9) (g bit:Int):Bool:=!decide (bits .and .i64 (c.Sets.getD g.toNat default) bit=0)
def c4u (c:l9) (bit:Int) (r:p9):Bool:=r.Serving&&hasB c r.Generation bit
def b7z (c:l9) (bit:Int):Bool:=!hasB c ((c.Sets.length:Int) - 1) bit&&!c.Replicas.any (c4u c bit)
theorem e89 {c:l9} {g:Int} (hg:0≤g∧g≤(c.Sets.length:Int) - 1) (bit:Int):e1f c g bit=some (hasB c g bit):=by
 unfold e1f
 rw [o8 (q9.2 ⟨hg.1,by omega⟩)];rfl
theorem d6l {c:l9} (h:a5p c) {bit:Int} (hb:bit=1∨bit=2):f0z c bit=some (b7z c bit):=by
 have hc:=c0z h
 obtain ⟨h1,h2,h3,h4,h5,h6⟩:=h
 have hs:f1b c bit=some (c.Replicas.any (c4u c bit)):=by
  unfold f1b f5m f7g
  rw [a2j (c4u c bit) c.Replicas fun k a ha=>?_]
  ·rfl
  ·unfold g2a f5n f5o
   rw [e89 (h5 a ha)]
   unfold c4u
   cases a.Serving with
   | false=>rfl
   | true=>cases hasB c a.Generation bit<;>rfl
 unfold f0z f5p
 have e:(decide (bit=1)||decide (bit=2))=true:=by simpa using hb
 rw [hc,xZ,e89 ⟨by omega,vN _⟩,hs]
 simp only [decide_true,vQ,grp,e,xZ,jn,o8 (u6 (n:=(c.Sets.length:Int) - 1) (by omega) (by omega))]
 unfold b7z
 cases hasB c ((c.Sets.length:Int) - 1) bit<;>rfl
theorem c1b {f:a01} (h:c2j f):e1g f=some 0:=by
 obtain ⟨h1,h2,h3,h4⟩:=h
 have a1:f1i f.Consumers=some false:=by
  unfold f1i f5q
  rw [a2j (fun _=>false) f.Consumers fun k a ha=>?_]
  ·simp
  ·unfold g2b f5r
   have:=h4 a ha
   have e:(decide (a.Pool<0)||decide (7<a.Pool))=false:=by simp;omega
   simp only [grp,e,xZ];rfl
 unfold e1g
 have e1:(((!decide (f.Slots=1))&&(!decide (f.Slots=2))||decide ((f.Consumers.length:Int)<1))||decide ((8:Int)<f.Consumers.length))=false:=by simp;omega
 simp only [grp,e1,vO,a1,xZ]
theorem b5r {dual:Bool} {kn x:Int} (hk:kn=1∨kn=3) (h:bOK dual kn x):d4s x kn dual=some true:=by
 unfold d4s
 have e1:(decide (0<x)&&decide (x≤3))=true:=by simp;rcases h with h|⟨_,h|⟨h,_⟩⟩<;>omega
 simp only [jn,grp,e1,vQ,xZ]
 rcases h with rfl|⟨hk,rfl|⟨rfl,hd⟩⟩
 ·rcases hk with hk|hk<;>rw [hk]
  ·rw [g0o];cases dual<;>rfl
  ·rw [g0n];cases dual<;>rfl
 ·rw [hk,g0m];cases dual<;>rfl
 ·rw [hk,g0l,hd];rfl
theorem d0k {c:u7} {u:a0r} {kn:Int} (hk:kn=1∨kn=3) (h:d55 c kn u):f1h c u kn=some true:=by
 obtain ⟨u1,u2,u3⟩:=h
 unfold f1h
 rw [b5r hk u1,xZ]
 cases hup:u.Up with
 | false=>rw [u2 hup];rfl
 | true =>
  obtain ⟨u4,u5⟩:=u3 hup
  rw [b5r hk u4]
  simp only [w6,vO,xZ,grp,Bool.true_and]
  cases hl:c.Live with
  | false=>rfl
  | true=>rw [u5 hl];simp
theorem b5m {f:a01} {s:o5} (h:a6i f s):F_f f s=some true:=by
 obtain ⟨hf,hk,hv,hl,hu⟩:=h
 unfold F_f
 have e1:((!decide (s.Known=1))&&(!decide (s.Known=3)))=false:=by rcases hk with hk|hk<;>rw [hk]<;>rfl
 have e2:d4s s.Valid s.Known (decide (f.Slots=2))=some true:=b5r hk (hv.imp id fun h=>⟨h.1,h.2.imp id fun h=>⟨h.1,wV h.2⟩⟩)
 have e4:(!decide ((s.Units.length:Int)=(f.Consumers.length:Int)))=false:=by rw [hl];simp
 rw [c1b hf,xZ,e2]
 simp only [jn,grp,decide_true,w6,w7,e1,vO,xZ,e4,Fl.elim]
 refine Ok.eq (Ok.bind (Ok.forI (all:=s.Units) (Q:=fun y=>y=Fl.nx ()) (fun _ _=>True) s.Units [] 0 () rfl rfl trivial (fun pre u q x hw _=>?_) fun _ _=>rfl) fun y hy=>by rw [hy];exact Ok.ret rfl)
 have hp:pre.length<s.Units.length:=by rw [hw];simp
 have hx:s.Units.getD pre.length default=u:=by rw [hw];simp
 have:=hu _ hp
 rw [hx] at this
 unfold g3n
 refine Ok.chk (q9.2 ⟨by omega,by omega⟩) ?_
 rw [xW,d0k hk this]
 exact Ok.ret trivial
def b3x (u:a0r):Bool:=(u.Up==true)&&(decide (u.Stored=2)&&decide (u.Used=2))
theorem d0o {f:a01} {s:o5} (h:a6i f s):f1c f s=some (decide (s.Valid=2)&&s.Units.all b3x):=by
 unfold f1c
 rw [b5m h,xZ]
 have a1:f1d s.Units ⟨true,2,2⟩=some (s.Units.any fun u=>!b3x u):=by
  unfold f1d f7h
  rw [a2j (fun u=>!b3x u) s.Units fun k a ha=>?_]
  show (bif !b3x a then some (Fl.ex k) else some (Fl.nx ()))=_
  cases b3x a<;>rfl
 rw [a1]
 have e:s.Units.all b3x=!s.Units.any fun u=>!b3x u:=by
  generalize s.Units=l
  induction l with
  | nil=>rfl
  | cons a r ih=>simp only [List.all_cons,List.any_cons,ih];cases b3x a<;>rfl
 rw [e]
 simp only [grp,jn,Bool.true_and]
 cases decide (s.Valid=2)<;>rfl
theorem b6u {r:o6} {c:o7} (h:r.Issuers.length≤8):f6h r c=some (decide (c9a r.Issuers.length c)):=b4d r c h
theorem d0v {s:Str} (h:e0z s):a7d s 40=true:=by
 obtain ⟨h1,h2,h3⟩:=h
 unfold a7d letters
 simp only [wG,wF,xO]
 exact ⟨h3,by omega,by omega⟩
theorem d0n (r:o6) (i h t:Int) (hn:r.Credentials.length≤24):f3j r i h t=some (g02 r.Credentials i h t):=by
 unfold f3j
 rw [show (0:Int)=((0:Nat):Int) from rfl,a3o (hdB i h t) 24 (by omega) r.Credentials 0 [] (by simpa using hn) fun k a x ha hx=>?_]
 ·rfl
 ·unfold g3b f6g
  simp only [grp,hdB,jn,xZ]
  cases (decide (a.Issuer=i)&&decide (a.Holder=h)) with
  | false=>rfl
  | true =>
   simp only [vQ,xZ,Bool.true_and]
   cases (decide (a.From≤t)&&decide (t<a.Until)) with
   | false=>rfl
   | true=>simp only [vQ];rw [o8 (a04 (by simp;omega))]
theorem b5q {r:o6} (h:a2x r):F_n r=some 0:=by
 obtain ⟨h1,h2,h3,h4,h5⟩:=h
 have a1:e1m r.Issuers=some false:=by
  unfold e1m f6i
  rw [a2j (fun _=>false) r.Issuers fun k a ha=>?_]
  ·simp
  ·unfold g3c f6j c1h
   rw [d0v (h3 a ha).1,xZ,e3u,a2s.2 (h3 a ha).2];rfl
 have a2:e0f r.Credentials r=some false:=by
  unfold e0f f3k
  rw [a2j (fun _=>false) r.Credentials fun k a ha=>?_]
  ·simp
  ·unfold f7e f1z
   rw [b6u h1,xZ,wV (h4 a ha)];rfl
 unfold F_n
 have e:(decide ((8:Int)<r.Issuers.length)||decide ((24:Int)<r.Credentials.length))=false:=by simp;omega
 simp only [grp,e,vO,a1,a2,xZ]
 rw [a0k (fun _=>(none:Option Int)) r.Credentials 0 fun k a ha=>?_]
 ·rw [a1b (p:=fun _=>True) (y:=(0:Int)) fun _ _=>by simp,if_pos (fun _ _=>trivial)];rfl
 ·unfold g3a
  obtain ⟨q1,q2,_⟩:=h4 a ha
  have:=h5 a ha
  unfold crR at this
  rw [d0n r _ _ _ h2,xZ,o8 (q9.2 ⟨q1,q2⟩),wI (by omega)];rfl
def finds (r:o6) (fp:Int):List Int:=b7e (fun c:o7=>decide (c.Fingerprint=fp)) 0 r.Credentials
theorem d6k {r:o6} (h:a2x r) (fp:Int):f3i r fp=some (finds r fp):=by
 unfold f3i
 rw [b5q h,xZ]
 simp only [decide_true,w6,vO]
 rw [show (0:Int)=((0:Nat):Int) from rfl,a3o (fun c:o7=>decide (c.Fingerprint=fp)) 24 (by omega) r.Credentials 0 [] (by have:=h.2.1;simpa using this) fun k a x ha hx=>?_]
 ·rfl
 ·unfold g36
  cases decide (a.Fingerprint=fp) with
  | false=>rfl
  | true=>simp only [vQ];rw [o8 (a04 (by simp;omega))]
theorem b73 {r:o6} (h:a2x r) {fp i:Int} (hi:i∈finds r fp):0≤i∧i<24:=by
 obtain ⟨j,h1,h2,_⟩:=b5w.1 hi
 have:=h.2.1
 omega
def tl1 (s:l6) (x:a00):l6:=l6.mk s.Fingerprint s.Spots (s.Public||decide (x.Principal=-1)) (if x.Principal=-1 then s.Readers else s.Readers+1) (if s.Since=-1∨x.Time<s.Since then x.Time else s.Since) s.Severity s.Rotated s.Dead
theorem e2o {s:l6} {x:a00} (k:Int) (h:0≤s.Readers∧s.Readers≤1000):f2g k x s=some (tl1 s x):=by
 unfold f2g tl1
 by_cases c:x.Principal=-1
 ·simp only [c,decide_true,vQ,jn,xZ,Bool.or_true,if_true]
  by_cases c1:s.Since=-1
  ·simp [c1]
  ·by_cases c2:x.Time<s.Since
   ·simp [c1,c2]
   ·simp [c1,c2]
 ·simp only [c,decide_false,vO,jn,o8 (u6 (n:=s.Readers+1) (by omega) (by omega)),xZ,Bool.or_false,if_false]
  by_cases c1:s.Since=-1
  ·simp [c1]
  ·by_cases c2:x.Time<s.Since
   ·simp [c1,c2]
   ·simp [c1,c2]
theorem c55:∀(l:List a00) (k:Int) (s:l6),0≤s.Readers→s.Readers+l.length≤1000→a0d f2g l k s=some (l.foldl tl1 s)
 | [],k,s,h,h'=>rfl
 | x::r,k,s,h,h'=>by
  simp only [wC] at h'
  simp only [a0d,e2o k (show 0≤s.Readers∧s.Readers≤1000 by omega),xZ,wQ]
  refine c55 r (k+1) _ ?_ ?_
  ·show 0≤ite _ _ _;split<;>omega
  ·show ite _ _ _+(r.length:Int)≤1000;split<;>omega
def c3f (l:List a00):List a00:=l.filter fun x=>decide (x.Principal≠-1)
def c6x (l:List a00) (t:Int):Prop:=(l=[]∧t=-1)∨(∃x∈l,t=x.Time)∧∀x∈l,t≤x.Time
structure Tl (l:List a00) (m s:l6):Prop where
 fp:s.Fingerprint=m.Fingerprint
 sp:s.Spots=m.Spots
 sv:s.Severity=m.Severity
 ro:s.Rotated=m.Rotated
 de:s.Dead=m.Dead
 pu:s.Public=(m.Public||l.any fun x=>decide (x.Principal=-1))
 rd:s.Readers=m.Readers+(c3f l).length
 si:c6x l s.Since
theorem d57 {m s:l6} {l:List a00} {x:a00} (ih:Tl l m s) (hl:∀y∈l,0≤y.Time) (hx:0≤x.Time):Tl (l++[x]) m (tl1 s x):=by
 refine ⟨ih.fp,ih.sp,ih.sv,ih.ro,ih.de,?_,?_,?_⟩
 ·show (_||_)=_
  rw [ih.pu];simp [Bool.or_assoc]
 ·show ite _ _ _=_
  rw [ih.rd]
  by_cases c:x.Principal=-1
  ·rw [if_pos c];simp [c3f,c]
  ·rw [if_neg c];simp [c3f,c];omega
 ·show c6x _ (ite _ _ _)
  right
  rcases ih.si with ⟨e,e1⟩|⟨⟨y,hy,e⟩,h2⟩
  ·subst e
   rw [if_pos (.inl e1)]
   exact ⟨⟨x,by simp,rfl⟩,by simp⟩
  ·have hy0:=hl y hy
   by_cases c:s.Since=-1∨x.Time<s.Since
   ·rw [if_pos c]
    refine ⟨⟨x,by simp,rfl⟩,fun z hz=>?_⟩
    simp only [wN,xI] at hz
    rcases hz with hz|rfl
    ·have:=h2 z hz;omega
    ·exact vN _
   ·rw [if_neg c]
    refine ⟨⟨y,by simp [hy],e⟩,fun z hz=>?_⟩
    simp only [wN,xI] at hz
    rcases hz with hz|rfl
    ·exact h2 z hz
    ·omega
theorem e2n {m:l6}:∀(l pre:List a00) (s:l6),Tl pre m s→(∀y∈pre,0≤y.Time)→(∀y∈l,0≤y.Time)→Tl (pre++l) m (l.foldl tl1 s)
 | [],pre,s,h,_,_=>by simpa using h
 | x::r,pre,s,h,hp,hl=>by
  rw [wQ]
  have:=e2n r (pre++[x]) _ (d57 h hp (hl x (by simp))) (fun y hy=>by
   simp only [wN,xI] at hy
   rcases hy with hy|rfl
   ·exact hp y hy
   ·exact hl y (by simp)) fun y hy=>hl y (by simp [hy])
  simpa using this
theorem c9n {m:l6} (hm:m.Since=-1) (l:List a00) (h:∀x∈l,0≤x.Time):Tl l m (l.foldl tl1 m):=by
 have:=e2n l [] m ⟨rfl,rfl,rfl,rfl,rfl,by simp,by simp [c3f],.inl ⟨rfl,hm⟩⟩ (by simp) h
 simpa using this
theorem c5i {d:d9} {a:l5} (g:a1g d) (h:Good a) {c p t:Int} (hs:sin d a c p=some t):0≤t∧t≤1099511627776:=by
 rcases b9m.1 (List.mem_of_find?_eq_some hs) with ⟨x,hx,rfl⟩|⟨x,hx,rfl⟩
 ·exact ⟨(h.ev x hx).1,(h.ev x hx).2.1⟩
 ·exact ⟨(g.ev x hx).2.1,(g.ev x hx).2.2.1⟩
theorem b7s {d:d9} {a:l5} (g:a1g d) (h:Good a) {c:Int}:∀x∈b1b d a c,0≤x.Time∧x.Time≤1099511627776:=fun x hx=>c5i g h (b5x.1 hx).2
theorem d0f (l:List a00):(c3f l).length≤l.length:=List.length_filter_le _ _
noncomputable def sev (x:l7) (w:List Int) (n:Int) (pub:Bool) (k:Int):p8:=⟨lvl (b08 w x k w.length*aud n pub),b08 w x k w.length,aud n pub,b08 w x k w.length*aud n pub⟩
def d3q (m:l6) (v:p8):l6:=l6.mk m.Fingerprint m.Spots m.Public m.Readers m.Since v m.Rotated m.Dead
def d50 (f:Int→p8) (l:List Int) (v0 v:p8):Prop:=(l=[]∧v=v0)∨(∃k∈l,v=f k)∧∀k∈l,(f k).Score≤v.Score
structure Scn (z:a0x):Prop where
 d:a1g z.d_
 dk:z.d_.Kinds.length≤7
 dk1:1≤z.d_.Kinds.length
 a:Good z.a_
 r:a2x z.r_
 x:a14 z.x_
 w:wOK z.w_
 wl:(z.w_.length:Int)=z.x_.Resources
 f0:0≤z.f_.Fingerprint
 f1:z.f_.Fingerprint≤18446744073709551615
 fw:z.f_.Where.length≤1000
 c0:0≤z.c_
 c1:z.c_≤63
 s:a6i z.qC z.s_
 g:a5p z.gB
structure h4h (z:a0x) (m:l6):Prop where
 fp:m.Fingerprint=z.f_.Fingerprint
 sp:m.Spots=z.f_.Where.length
 pu:m.Public=(b1b z.d_ z.a_ z.c_).any fun x=>decide (x.Principal=-1)
 rd:m.Readers=(c3f (b1b z.d_ z.a_ z.c_)).length
 si:c6x (b1b z.d_ z.a_ z.c_) m.Since
 sv:d50 (sev z.x_ z.w_ m.Readers m.Public) (finds z.r_ z.f_.Fingerprint) ⟨0,0,0,0⟩ m.Severity
 ro:m.Rotated=(decide (z.s_.Valid=2)&&z.s_.Units.all b3x)
 de:m.Dead=b7z z.gB 1
theorem wrap_u64 {n:Int} (h0:0≤n) (h1:n≤1000000):IntKind.wrap .u64 n=n:=IntWalk.u64_in n ⟨h0,by omega⟩
theorem d85 {t:x8} (h:TOK t):Ok (f2f t) fun y=>Scn y.1∧y.1.x_.Credentials≤24∧y.1.a_.Events.length≤15∧(∀x∈y.1.a_.Events,x.Time≤33)∧TOK y.2:=by
 unfold f2f
 refine Ok.bind (e94 h) fun d hd=>?_
 obtain ⟨d1,d2,d3,_,_,d6⟩:=hd
 refine Ok.bind (c7u d6 d3) fun a ha=>?_
 obtain ⟨a1,a2,a3,a4,a5⟩:=ha
 refine Ok.bind (b9c a5) fun r hr=>Ok.bind (c5x hr.2) fun x hx=>?_
 obtain ⟨x1,x2,x3,x4,x5,x6,x7⟩:=hx
 refine Ok.bind (c4v x7 (by omega) (by omega)) fun w hw=>?_
 obtain ⟨w1,w2,w3⟩:=hw
 refine Ok.bind (a02 w3 (by omega)) fun f hf=>Ok.bind (a02 hf.2.2 (by omega)) fun n hn=>Ok.chk (a2f.2 ⟨hn.1,vN _,by have:=hn.2.1;omega⟩) (Ok.bind (a02 hn.2.2 (by omega)) fun c hc=>Ok.bind (e91 hc.2.2) fun fl hfl=>Ok.bind (d8h hfl.2 hfl.1) fun s hs=>Ok.bind (c41 hs.2) fun g hg=>Ok.ret ⟨?_,by show x.1.Credentials≤24;omega,a3,a4,hg.2⟩)
 have ew:IntKind.wrap .u64 f.1=f.1:=wrap_u64 hf.1 (by have:=hf.2.1;omega)
 exact ⟨d1,d3,d2,a1,hr.1,x1,w2,w1,by show 0≤IntKind.wrap .u64 f.1;rw [ew];exact hf.1,by show IntKind.wrap .u64 f.1≤_;rw [ew];have:=hf.2.1;omega,by show (List.replicate _ _).length≤1000;rw [List.length_replicate];have:=hn.2.1;omega,hc.1,by show c.1≤63;have:=hc.2.1;omega,hs.1,hg.1⟩
theorem d9o {n:Int} (h0:0≤n) (h1:n≤24) (p:Bool):0≤aud n p∧aud n p≤100:=by
 unfold aud;cases p<;>simp<;>omega
theorem d5j {x:l7} {w:List Int} (g:a14 x) (hw:wOK w) (hl:(w.length:Int)=x.Resources) {n:Int} (h0:0≤n) (h1:n≤24) (p:Bool) (k:Int) :
  0≤(sev x w n p k).Score∧(sev x w n p k).Score≤1000000∧0≤(sev x w n p k).Worth∧(sev x w n p k).Worth≤7200∧0≤(sev x w n p k).Audience∧(sev x w n p k).Audience≤100∧0≤(sev x w n p k).Level∧(sev x w n p k).Level≤4:=by
 have hr:=a4g g hw k w.length (vL _)
 have ha:=d9o h0 h1 p
 have hR:=g.r1
 have hW:b08 w x k w.length≤7200:=by omega
 have hm:b08 w x k w.length*aud n p≤7200*100:=Int.mul_le_mul hW ha.2 ha.1 (by omega)
 have hm0:0≤b08 w x k w.length*aud n p:=Int.mul_nonneg hr.1 ha.1
 have hl:=e7q (b08 w x k w.length*aud n p)
 exact ⟨hm0,by show b08 w x k w.length*aud n p≤1000000;omega,hr.1,hW,ha.1,ha.2,hl.1,hl.2⟩
theorem c2k:SV zS:=⟨by decide,by decide,u6 (by decide) (by decide),u6 (by decide) (by decide),u6 (by decide) (by decide),u6 (by decide) (by decide),u6 (by decide) (by decide),u6 (by decide) (by decide),u6 (by decide) (by decide)⟩
end Go.Ab