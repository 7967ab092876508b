/- Numbers and words of a line (for chapter 43). -/
import Derived.Test.YtdmnaloiileofaaGreatDoorAbMC
import Derived.Lib.Join
import Derived.Test.YtdmnaloiileofaaGreatDoorLN
import Derived.Test.YtdmnaloiileofaaGreatDoorPA
set_option linter.all false
namespace Go.Ab
open Go.Proofs
theorem a8r (u:Nat):∀c∈Lib.decDigits u,48≤c.toNat∧c.toNat≤57:=by
 induction u using Nat.strongRecOn with
 | _ u ih =>
  intro c hc
  rw [Lib.decDigits] at hc
  split at hc
  ·rename_i h
   simp at hc;subst hc
   simp;omega
  ·rcases wL.1 hc with hc|hc
   ·exact ih (u / 10) (by omega) c hc
   ·simp at hc;subst hc
    simp;omega
theorem c7r (u:Nat) (h:u≤18446744073709551615) (l:Str):Lib.parseUint10 0 (Lib.decDigits u++l)=Lib.parseUint10 u l:=by
 induction u using Nat.strongRecOn generalizing l with
 | _ u ih =>
  rw [Lib.decDigits]
  split
  ·rename_i hu
   have e:(UInt8.ofNat (48+u)).toNat=48+u:=by simp;omega
   simp only [wC,wJ,Lib.parseUint10,e]
   rw [if_pos (by omega),if_neg (by omega),if_neg (by omega)]
   congr 1;omega
  ·rename_i hu
   rw [List.append_assoc,ih (u / 10) (by omega) (by omega)]
   have e:(UInt8.ofNat (48+u % 10)).toNat=48+u % 10:=by simp;omega
   simp only [wC,wJ,Lib.parseUint10,e]
   rw [if_pos (by omega),if_neg (by omega),if_neg (by omega)]
   congr 1;omega
theorem d5k (u:Nat):Lib.decDigits u≠[]:=by rw [Lib.decDigits];split<;>simp
theorem c1j (u:Nat) (h:u≤18446744073709551615):Lib.parseMag (Lib.decDigits u)=.ok u:=by
 have hp:=c7r u h []
 rw [wQ] at hp
 unfold Lib.parseMag
 rw [if_neg (d5k u),hp];rfl
theorem c9g {u:Nat} (hu:u<18446744073709551616):(Lib.decDigits u).length≤20:=by
 rw [Lib.decDigits_length]
 by_cases h:1≤u
 ·have:=Lib.numDigits_eq u h hu;split at this<;>omega
 ·obtain rfl:u=0:=by omega
  exact zQ (by kernel_rfl)
theorem b9x {n:Int} (h0:-9223372036854775808≤n) (h1:n≤9223372036854775807):a5y (Lib.itoa n)=some (n,true):=by
 have key:Lib.atoiAll (Lib.itoa n)=.ok n∧(Lib.itoa n).length≤21:=by
  refine ⟨?_,Lib.itoa_length_le n h0 h1⟩
  by_cases c:0≤n
  ·obtain ⟨u,rfl⟩:=Int.eq_ofNat_of_zero_le c
   rw [Lib.itoa_nonneg]
   have hb:=a8r u
   cases hd:Lib.decDigits u with
   | nil=>exact absurd hd (d5k u)
   | cons c r =>
    have h1:=hb c (by rw [hd];simp)
    rw [Lib.atoiAll_plain c r (by omega) (by omega),←hd,c1j u (by omega)]
    simp only [Lib.signless]
    rw [if_neg (by omega)]
  ·obtain ⟨u,hu⟩:∃u:Nat,n=-(u:Int):=⟨(-n).toNat,by omega⟩
   subst hu
   rw [Lib.itoa_neg u (by omega),Lib.atoiAll_minus,c1j u (by omega)]
   simp only [Lib.signed]
   rw [if_neg (by omega)]
 refine Ok.eq (Ok.chk (wT (by omega)) (Ok.ret ?_))
 unfold a1v a2g
 rw [key.1]
theorem b08 (sep a:Str) (l:List Str):Lib.joinTail sep (a::l)=sep++a++Lib.joinTail sep l:=by simp [Lib.joinTail]
theorem c2h {b:UInt8}:∀(l:List Str) (a:Str),(∀w∈a::l,∀c∈w,c≠b)→spl b (Lib.join (a::l) [b])=a::l
 | [],a,h=>by
  rw [Lib.join_cons]
  simpa [Lib.joinTail] using b3d (h a (by simp))
 | x::l,a,h=>by
  have ih:=c2h (b:=b) l x fun w hw=>h w (xA _ hw)
  rw [Lib.join_cons] at ih
  rw [Lib.join_cons,b08]
  have e:a++([b]++x++Lib.joinTail [b] l)=a++b::(x++Lib.joinTail [b] l):=by simp
  rw [e,c0p _ (h a (by simp)),ih]
set_option maxRecDepth 20000
structure SV (m:o9):Prop where
 f0:0≤m.Fingerprint
 f1:m.Fingerprint≤18446744073709551615
 a:a0w m.Spots=true
 b:a0w m.Readers=true
 c:a0w m.Since=true
 d:a0w m.Severity.Level=true
 e:a0w m.Severity.Worth=true
 f:a0w m.Severity.Audience=true
 g:a0w m.Severity.Score=true
def ch (b:Bool) (y n:Str):Str:=bif b then y else n
abbrev d4v:Str:=[112,117,98,108,105,99]
abbrev e3w:Str:=[105,110,115,105,100,101]
abbrev d63:Str:=[114,111,116,97,116,101,100]
abbrev f6i:Str:=[118,97,108,105,100]
abbrev c0g:Str:=[100,101,97,100]
abbrev f6j:Str:=[97,108,105,118,101]
def wds (m:o9):List Str:=[[108,101,97,107],Lib.decDigits m.Fingerprint.toNat,[115,112,111,116,115],Lib.itoa m.Spots,ch m.Public d4v e3w,
 [114,101,97,100,101,114,115],Lib.itoa m.Readers,[115,105,110,99,101],Lib.itoa m.Since,[108,101,118,101,108],Lib.itoa m.Severity.Level,[119,111,114,116,104],Lib.itoa m.Severity.Worth,
 [97,117,100,105,101,110,99,101],Lib.itoa m.Severity.Audience,[115,99,111,114,101],Lib.itoa m.Severity.Score,ch m.Rotated d63 f6i,ch m.Dead c0g f6j]
def ltx (m:o9):Str:=Lib.join (wds m) [32]
theorem b56 (b:Bool) (y n:Str):e2v b y n=some (ch b y n):=by cases b<;>rfl
theorem f0h {n:Int} (h0:0≤n) (h1:n≤18446744073709551615):e2m n 10=some (Lib.decDigits n.toNat):=by
 unfold e2m
 exact p8 (by simp;omega)
theorem c8i {n:Int} (h:a0w n=true):b2z n=some (Lib.itoa n):=p8 h
theorem a6y {n:Int} (h:a0w n=true):(Lib.itoa n).length≤21:=Lib.itoa_length_le n (a3d.1 h).1 (a3d.1 h).2
theorem c9p {b:Bool} {y n:Str} (h1:y.length≤7) (h2:n.length≤7):(ch b y n).length≤7:=by cases b<;>assumption
theorem b92 (sep:Str):Lib.joinTail sep []=[]:=rfl
theorem c3e {n:Nat}:∀(l:List Str) (a:Str),(∀w∈a::l,w.length≤n)→(Lib.join (a::l) [32]).length≤(n+1)*(l.length+1)
 | [],a,h=>by
  have:=h a (by simp)
  rw [Lib.join_cons,b92];simp;omega
 | x::l,a,h=>by
  have ih:=c3e l x fun w hw=>h w (xA _ hw)
  have:=h a (by simp)
  rw [Lib.join_cons] at ih
  rw [Lib.join_cons,b08,xH,xH,xH,show (x::l).length+1=(l.length+1)+1 from rfl,Nat.mul_add (n+1) (l.length+1) 1]
  rw [xH] at ih
  simp only [wA,wM]
  omega
theorem d62 {m:o9} (h:SV m):∀w∈wds m,w.length≤21:=by
 have d:=c9g (u:=m.Fingerprint.toNat) (by have:=h.f1;omega)
 have a1:=a6y h.a;have a2:=a6y h.b;have a3:=a6y h.c;have a4:=a6y h.d;have a5:=a6y h.e;have a6:=a6y h.f;have a7:=a6y h.g
 have c1:=c9p (b:=m.Public) (y:=d4v) (n:=e3w) (by decide) (by decide)
 have c2:=c9p (b:=m.Rotated) (y:=d63) (n:=f6i) (by decide) (by decide)
 have c3:=c9p (b:=m.Dead) (y:=c0g) (n:=f6j) (by decide) (by decide)
 have lit:∀{l:Str},l.length≤8→l.length≤21:=fun h=>vB h (by decide)
 unfold wds
 simp only [List.forall_mem_cons]
 exact ⟨lit (by decide),vB d (by decide),lit (by decide),a1,vB c1 (by decide),lit (by decide),a2,lit (by decide),a3,lit (by decide),a4,lit (by decide),a5,lit (by decide),a6,lit (by decide),a7,vB c2 (by decide),vB c3 (by decide),fun _ h=>by cases h⟩
theorem c89 {m:o9} (h:SV m):(ltx m).length≤418:=c3e (n:=21) _ _ (d62 h)
theorem d52 {n:Nat} (h:n≤100):room n 16=true:=a6t.2 (by omega)
theorem d4w {m:o9} (h:SV m):F_e m=some (ltx m):=by
 have hl:=c89 h
 have ej:d2u (wds m) [32]=some (ltx m):=by
  unfold d2u c58
  exact p8 (by simp only [wE,xM];exact ⟨by simp [wds],by show (ltx m).length≤_;omega⟩)
 refine Ok.eq ?_
 unfold F_e
 refine Ok.bind (Ok.of (f0h h.f0 h.f1) rfl) fun y e=>?_
 subst e
 refine Ok.bind (Ok.of (c8i h.a) rfl) fun y e=>?_
 subst e
 refine Ok.bind (Ok.of (b56 _ _ _) rfl) fun y e=>?_
 subst e
 have L:∀(k:Int) (a:a5z) (x:List Str),a0w a.n_=true→x.length≤40→f9t k a x=some (x++[a.kH,Lib.itoa a.n_]):=fun k a x h1 h2=>by
  unfold f9t
  rw [c8i h1,xX,p8 (d52 (by simp;omega))]
 have hb:=h.b;have hc:=h.c;have hd:=h.d;have he:=h.e;have hf:=h.f;have hg:=h.g
 refine Ok.bind (P:=fun x=>x=[[108,101,97,107],Lib.decDigits m.Fingerprint.toNat,[115,112,111,116,115],Lib.itoa m.Spots,ch m.Public d4v e3w,
  [114,101,97,100,101,114,115],Lib.itoa m.Readers,[115,105,110,99,101],Lib.itoa m.Since,[108,101,118,101,108],Lib.itoa m.Severity.Level,[119,111,114,116,104],Lib.itoa m.Severity.Worth,
  [97,117,100,105,101,110,99,101],Lib.itoa m.Severity.Audience,[115,99,111,114,101],Lib.itoa m.Severity.Score]) ?_ fun y e=>?_
 ·simp only [foldL]
  rw [L _ _ _ hb (by simp)];simp only [xX]
  rw [L _ _ _ hc (by simp)];simp only [xX]
  rw [L _ _ _ hd (by simp)];simp only [xX]
  rw [L _ _ _ he (by simp)];simp only [xX]
  rw [L _ _ _ hf (by simp)];simp only [xX]
  rw [L _ _ _ hg (by simp)];simp only [xX]
  exact Ok.ret rfl
 ·subst e
  refine Ok.bind (Ok.of (b56 _ _ _) rfl) fun y e=>?_
  subst e
  refine Ok.bind (Ok.of (b56 _ _ _) rfl) fun y e=>?_
  subst e
  refine Ok.chk (d52 (by simp)) (Ok.bind (Ok.of ej rfl) fun y e=>Ok.ret e.symm)
theorem c5a {n:Int}:∀c∈Lib.itoa n,c=45∨(48≤c.toNat∧c.toNat≤57):=by
 by_cases h:0≤n
 ·obtain ⟨u,rfl⟩:=Int.eq_ofNat_of_zero_le h
  rw [Lib.itoa_nonneg]
  exact fun c hc=>.inr (a8r u c hc)
 ·obtain ⟨u,hu⟩:∃u:Nat,n=-(u:Int):=⟨(-n).toNat,by omega⟩
  subst hu
  rw [Lib.itoa_neg u (by omega)]
  intro c hc
  rcases wY.1 hc with rfl|hc
  ·exact .inl rfl
  ·exact .inr (a8r u c hc)
theorem f0n {u:Nat}:∀c∈Lib.decDigits u,c≠32:=fun c hc e=>by
 subst e;have:=a8r u _ hc;simp at this
theorem a9c {n:Int}:∀c∈Lib.itoa n,c≠32:=fun c hc e=>by
 subst e;rcases c5a _ hc with h|h
 ·cases h
 ·simp at h
theorem e04 {b:Bool} {y n:Str} (h1:∀c∈y,c≠32) (h2:∀c∈n,c≠32):∀c∈ch b y n,c≠32:=by cases b<;>assumption
def NS (l:Str):Prop:=∀c∈l,c≠32
theorem e3v (m:o9):∀w∈wds m,∀c∈w,c≠32:=by
 have lit:∀{l:Str},(l.all fun c=>c != 32)=true→∀c∈l,c≠32:=fun h c hc=>by
  have:=wD.1 h c hc
  simpa using this
 show ∀w∈wds m,NS w
 unfold wds
 simp only [List.forall_mem_cons]
 exact ⟨lit (by decide),f0n,lit (by decide),a9c,e04 (lit (by decide)) (lit (by decide)),lit (by decide),a9c,lit (by decide),a9c,lit (by decide),a9c,lit (by decide),a9c,lit (by decide),a9c,lit (by decide),a9c,
  e04 (lit (by decide)) (lit (by decide)),e04 (lit (by decide)) (lit (by decide)),fun _ h=>by cases h⟩
theorem c0n (m:o9):spl 32 (ltx m)=wds m:=c2h _ _ (e3v m)
def zS:o9:=o9.mk 0 0 false 0 0 (a00.mk 0 0 0 0) false false
def e4p (o:Nat) (v:Int) (m:o9):o9:=match o with
 | 1=>{ m with Spots:=v }
 | 3=>{ m with Readers:=v }
 | 4=>{ m with Since:=v }
 | 5=>{ m with Severity:={ m.Severity with Level:=v } }
 | 6=>{ m with Severity:={ m.Severity with Worth:=v } }
 | 7=>{ m with Severity:={ m.Severity with Audience:=v } }
 | 8=>{ m with Severity:={ m.Severity with Score:=v } }
 | _=>m
abbrev d3r:List (Int×Nat):=[(3,1),(6,3),(8,4),(10,5),(12,6),(14,7),(16,8)]
def bdy (y:List Str) (s:Bool×o9) (a:Int×Nat):Bool×o9:=(s.1||!a2g (y.getD a.1.toNat default),e4p a.2 (a1v (y.getD a.1.toNat default)) s.2)
theorem g3n {y:List Str} (hy:y.length=19) (hl:∀k,(y.getD k default).length≤281474976710656) {a:Int×Nat} (ha:a∈d3r) (k:Int) (s:Bool×o9):e3h y k a s=some (bdy y s a):=by
 have at':∀k,a5y (y.getD k default)=some (a1v (y.getD k default),a2g (y.getD k default)):=fun k=>p8 (wT (hl k))
 have ib:∀k:Int,0≤k→k<19→inb k y.length=true:=fun k h0 h1=>u6.2 ⟨h0,by omega⟩
 simp only [d3r,wY,List.not_mem_nil,or_false] at ha
 rcases ha with rfl|rfl|rfl|rfl|rfl|rfl|rfl
 ·show chk (inb 3 y.length) ((a5y (y.getD 3 default)).bind _)=_
  rw [p8 (ib 3 (by decide) (by decide)),at'];rfl
 ·show chk (inb 6 y.length) ((a5y (y.getD 6 default)).bind _)=_
  rw [p8 (ib 6 (by decide) (by decide)),at'];rfl
 ·show chk (inb 8 y.length) ((a5y (y.getD 8 default)).bind _)=_
  rw [p8 (ib 8 (by decide) (by decide)),at'];rfl
 ·show chk (inb 10 y.length) ((a5y (y.getD 10 default)).bind _)=_
  rw [p8 (ib 10 (by decide) (by decide)),at'];rfl
 ·show chk (inb 12 y.length) ((a5y (y.getD 12 default)).bind _)=_
  rw [p8 (ib 12 (by decide) (by decide)),at'];rfl
 ·show chk (inb 14 y.length) ((a5y (y.getD 14 default)).bind _)=_
  rw [p8 (ib 14 (by decide) (by decide)),at'];rfl
 ·show chk (inb 16 y.length) ((a5y (y.getD 16 default)).bind _)=_
  rw [p8 (ib 16 (by decide) (by decide)),at'];rfl
theorem c8s {y:List Str} (hy:y.length=19) (hl:∀k,(y.getD k default).length≤281474976710656):∀(l:List (Int×Nat)) (k:Int) (s:Bool×o9),(∀a∈l,a∈d3r)→foldL (e3h y) l k s=some (l.foldl (bdy y) s)
 | [],k,s,_=>rfl
 | a::l,k,s,h=>by
  simp only [foldL,g3n hy hl (h a (by simp)),xX,wO]
  exact c8s hy hl l (k+1) _ fun b hb=>h b (by simp [hb])
theorem d4c {y:List Str}:∀a∈d3r,∀b∈d3r,∀s,bdy y (bdy y s a) b=bdy y (bdy y s b) a:=by
 intro a ha b hb s
 have hB:∀p q r:Bool,((p||q)||r)=((p||r)||q):=by decide
 unfold bdy
 refine Prod.ext (hB _ _ _) ?_
 show e4p b.2 _ (e4p a.2 _ s.2)=e4p a.2 _ (e4p b.2 _ s.2)
 simp only [d3r,wY,List.not_mem_nil,or_false] at ha hb
 rcases ha with rfl|rfl|rfl|rfl|rfl|rfl|rfl<;>rcases hb with rfl|rfl|rfl|rfl|rfl|rfl|rfl<;>rfl
def f1z (y:List Str):Bool:=!(a2g (y.getD 3 default)&&a2g (y.getD 6 default)&&a2g (y.getD 8 default)&&a2g (y.getD 10 default)&&a2g (y.getD 12 default)&&a2g (y.getD 14 default)&&a2g (y.getD 16 default))
def tS (u:Int) (y:List Str):o9:=o9.mk u (a1v (y.getD 3 default)) (decide ((y.getD 4 default)=d4v)) (a1v (y.getD 6 default)) (a1v (y.getD 8 default))
 (a00.mk (a1v (y.getD 10 default)) (a1v (y.getD 12 default)) (a1v (y.getD 14 default)) (a1v (y.getD 16 default))) (decide ((y.getD 17 default)=d63)) (decide ((y.getD 18 default)=c0g))
theorem e4f {u:Int} (h0:0≤u) (h1:u≤18446744073709551615) (y:List Str):SV (tS u y):=by
 have r:∀s,a0w (a1v s)=true:=fun s=>by have:=b57 s;rw [e5b] at this;exact this
 exact ⟨h0,h1,r _,r _,r _,r _,r _,r _,r _⟩
theorem d7i {s:Str} (h:s.length≤281474976710656):∃u b,puE s 10 64=some (u,b)∧0≤u∧u≤18446744073709551615:=by
 unfold puE
 rw [p8 (by simp [h])]
 cases e:Lib.parseUintB 64 s with
 | ok u=>exact ⟨u,true,rfl,by omega,by have:=Lib.parseUintB_le e;simp at this;omega⟩
 | range=>exact ⟨_,_,rfl,by decide,by decide⟩
 | _=>exact ⟨0,false,rfl,by decide,by decide⟩
theorem b7g {u:Nat} (h:u≤18446744073709551615):puE (Lib.decDigits u) 10 64=some ((u:Int),true):=by
 have hl:=c9g (u:=u) (by omega)
 unfold puE
 rw [p8 (by simp;omega),Lib.parseUintB_64,c1j u h]
theorem c6r (b:UInt8) (s:Str) (k:Nat):((spl b s).getD k default).length≤s.length:=by
 by_cases h:k<(spl b s).length
 ·have:(spl b s).getD k default∈spl b s:=by rw [zE,zJ h];exact wB h
  exact c0o b s _ this
 ·rw [zE,List.getElem?_eq_none (by omega)];exact vH _
theorem d7j {t:Str} (ht:t.length≤1000):∃u:Int,0≤u∧u≤18446744073709551615∧(∀m,SV m→spl 32 t=wds m→u=m.Fingerprint) ∧
  ((∃b,F_7 t=some (bif b||(!decide ((spl 32 t).length=19)||!decide (ltx (tS u (spl 32 t))=t)) then (zS,4) else (tS u (spl 32 t),0))∧(∀m,SV m→spl 32 t=wds m→b=false))):=by
 have es:d4x t [32]=some (spl 32 t):=by
  unfold d4x;simp only;rw [wT (by omega)];rfl
 have hl:∀k,((spl 32 t).getD k default).length≤281474976710656:=fun k=>vB (c6r 32 t k) (by omega)
 obtain ⟨u,bu,hu,h0,h1⟩:=d7i (hl 1)
 refine ⟨u,h0,h1,fun m hm e=>?_,?_⟩
 ·rw [e] at hu
  have h2:puE ((wds m).getD 1 default) 10 64=some ((m.Fingerprint.toNat:Int),true):=b7g (by have:=hm.f1;omega)
  rw [h2] at hu
  have:=congrArg Prod.fst (wH hu)
  simp only at this
  have:=hm.f0;omega
 ·generalize hy:spl 32 t=y at es hl hu
  by_cases h19:y.length=19
  ·have hperm:∀l,l.Perm d3r→foldL (e3h y) l 0 (!bu,zS)=some (d3r.foldl (bdy y) (!bu,zS)):=fun l hp=>by
    rw [c8s h19 hl l 0 _ fun a ha=>hp.mem_iff.1 ha]
    exact congrArg some (List.Perm.foldl_eq' hp (fun a ha b hb s=>d4c a (hp.mem_iff.1 ha) b (hp.mem_iff.1 hb) s) _)
   have hfin:d3r.foldl (bdy y) (!bu,zS)=(!bu||f1z y,{ tS u y with Fingerprint:=0,Public:=false,Rotated:=false,Dead:=false }):=by
    refine Prod.ext ?_ rfl
    show (((((((!bu||!a2g _)||!a2g _)||!a2g _)||!a2g _)||!a2g _)||!a2g _)||!a2g _)=_
    unfold f1z
    have:∀a b c d e f g h:Bool,(((((((!a||!b)||!c)||!d)||!e)||!f)||!g)||!h)=(!a||!(b&&c&&d&&e&&f&&g&&h)):=by decide
    exact this _ _ _ _ _ _ _ _
   refine ⟨!bu||f1z y,?_,fun m hm e=>?_⟩
   ·refine Ok.eq ?_
    unfold F_7
    refine Ok.bind (Ok.of es rfl) fun y' e=>?_
    subst e
    refine Ok.ite (fun hc=>by simp [h19] at hc) fun _=>?_
    refine Ok.chk (u6.2 ⟨by decide,by omega⟩) (Ok.bind (Ok.of hu rfl) fun q e=>?_)
    subst e
    refine Ok.of (a9z fun l hp=>?_) rfl
    show ((foldL (e3h y) l 0 (!bu,zS)).bind _)=_
    rw [hperm l hp,hfin,xX,p8 (u6.2 ⟨by decide,by omega⟩),p8 (u6.2 ⟨by decide,by omega⟩),p8 (u6.2 ⟨by decide,by omega⟩)]
    cases hw:(!bu||f1z y) with
    | true=>simp only [vO,Bool.true_or];rfl
    | false =>
     simp only [vM,w5]
     show ((F_e (tS u y)).bind fun y127=>bif !decide (y127=t) then some (zS,4) else some (tS u y,0))=_
     rw [d4w (e4f h0 h1 y),xX]
     rw [wT h19,w4,w5]
     cases hd:(!decide (ltx (tS u y)=t))<;>rfl
   ·have hat:∀{n:Int},a0w n=true→a2g (Lib.itoa n)=true:=fun {n} h=>by
     have:=b9x (a3d.1 h).1 (a3d.1 h).2
     have:=(b58 this).2
     have:=congrArg Prod.snd this
     exact this.symm
    rw [e] at hu
    have h2:puE ((wds m).getD 1 default) 10 64=some ((m.Fingerprint.toNat:Int),true):=b7g (by have:=hm.f1;omega)
    rw [h2] at hu
    have hb:=congrArg Prod.snd (wH hu)
    simp only at hb
    subst hb
    rw [e]
    unfold f1z
    show (!true||!(a2g (Lib.itoa _)&&a2g (Lib.itoa _)&&a2g (Lib.itoa _)&&a2g (Lib.itoa _)&&a2g (Lib.itoa _)&&a2g (Lib.itoa _)&&a2g (Lib.itoa _)))=false
    rw [hat hm.a,hat hm.b,hat hm.c,hat hm.d,hat hm.e,hat hm.f,hat hm.g];rfl
  ·refine ⟨true,?_,fun m hm e=>absurd (by rw [e];rfl) h19⟩
   refine Ok.eq ?_
   unfold F_7
   refine Ok.bind (Ok.of es rfl) fun y' e=>?_
   subst e
   refine Ok.ite (fun _=>Ok.ret rfl) fun hc=>?_
   simp at hc;omega
theorem c6m {m:o9} (hm:SV m):tS m.Fingerprint (wds m)=m:=by
 have hat:∀{n:Int},a0w n=true→a1v (Lib.itoa n)=n:=fun {n} h=>by
  have:=b9x (a3d.1 h).1 (a3d.1 h).2
  exact (congrArg Prod.fst (b58 this).2).symm
 have c1:∀b,decide (ch b d4v e3w=d4v)=b:=fun b=>by cases b<;>decide
 have c2:∀b,decide (ch b d63 f6i=d63)=b:=fun b=>by cases b<;>decide
 have c3:∀b,decide (ch b c0g f6j=c0g)=b:=fun b=>by cases b<;>decide
 show o9.mk m.Fingerprint (a1v (Lib.itoa _)) (decide (ch _ d4v e3w=d4v)) (a1v (Lib.itoa _)) (a1v (Lib.itoa _)) (a00.mk (a1v (Lib.itoa _)) (a1v (Lib.itoa _)) (a1v (Lib.itoa _)) (a1v (Lib.itoa _))) (decide (ch _ d63 f6i=d63)) (decide (ch _ c0g f6j=c0g))=m
 rw [hat hm.a,hat hm.b,hat hm.c,hat hm.d,hat hm.e,hat hm.f,hat hm.g,c1,c2,c3]
def e0x (t:Str) (r:o9×Int):Prop:=(∃m,SV m∧ltx m=t∧r=(m,0))∨((∀m,SV m→ltx m≠t)∧r=(zS,4))
theorem e5f {t:Str} (ht:t.length≤1000):Ok (F_7 t) (e0x t):=by
 obtain ⟨u,h0,h1,hm,b,hb,hbf⟩:=d7j ht
 refine ⟨_,hb,?_⟩
 by_cases h:∃m,SV m∧ltx m=t
 ·obtain ⟨m,hm1,rfl⟩:=h
  have e:=c0n m
  have e1:=hm m hm1 e
  subst e1
  rw [hbf m hm1 e,e,c6m hm1]
  refine .inl ⟨m,hm1,rfl,?_⟩
  simp [wds]
 ·refine .inr ⟨fun m hm1 e=>h ⟨m,hm1,e⟩,?_⟩
  have:decide (ltx (tS u (spl 32 t))=t)=false:=wG fun e=>h ⟨_,e4f h0 h1 _,e⟩
  rw [this];simp
theorem d7d {t:Str} {r r':o9×Int} (h:e0x t r) (h':e0x t r'):r=r':=by
 rcases h with ⟨m,hm,e,rfl⟩|⟨h,rfl⟩<;>rcases h' with ⟨m',hm',e',rfl⟩|⟨h',rfl⟩
 ·have e1:=c0n m
  have e2:=c0n m'
  rw [e] at e1;rw [e'] at e2
  have e3:wds m=wds m':=e1.symm.trans e2
  have hf:m.Fingerprint=m'.Fingerprint:=by
   have h1:puE ((wds m).getD 1 default) 10 64=some ((m.Fingerprint.toNat:Int),true):=b7g (by have:=hm.f1;omega)
   have h2:puE ((wds m').getD 1 default) 10 64=some ((m'.Fingerprint.toNat:Int),true):=b7g (by have:=hm'.f1;omega)
   rw [e3,h2] at h1
   have:=congrArg Prod.fst (wH h1)
   simp only at this
   have:=hm.f0;have:=hm'.f0;omega
  have h1:=c6m hm
  have h2:=c6m hm'
  rw [e3,hf,h2] at h1
  rw [h1]
 ·exact absurd e (h' m hm)
 ·exact absurd e' (h m' hm')
 ·rfl
def e2k (s:Str):Prop:=1≤s.length∧s.length≤40∧∀c∈s,97≤c.toNat∧c.toNat≤122
instance (s:Str):Decidable (e2k s):=inferInstanceAs (Decidable (_∧_∧_))
def c1n (i:a0j):Prop:=e2k i.Name∧1≤i.Slots∧i.Slots≤2
instance (i:a0j):Decidable (c1n i):=inferInstanceAs (Decidable (_∧_∧_))
def d3y (n:Nat) (c:l9):Prop:=0≤c.Issuer∧c.Issuer<n∧0≤c.Holder∧c.Holder≤23∧0≤c.From∧c.From<c.Until∧c.Until≤1099511627777
instance (n:Nat) (c:l9):Decidable (d3y n c):=inferInstanceAs (Decidable (_∧_∧_∧_∧_∧_∧_))
def hdB (i h t:Int) (c:l9):Bool:=decide (c.Issuer=i)&&decide (c.Holder=h)&&decide (c.From≤t)&&decide (t<c.Until)
def b5j {α:Type} (p:α→Bool):Nat→List α→List Int
 | _,[]=>[]
 | k,x::r=>bif p x then (k:Int)::b5j p (k+1) r else b5j p (k+1) r
def e9e (L:List l9) (i h t:Int):List Int:=b5j (hdB i h t) 0 L
def crR (r:l7) (c:l9):Prop:=((e9e r.Credentials c.Issuer c.Holder c.From).length:Int)≤(r.Issuers.getD c.Issuer.toNat default).Slots
instance (r:l7) (c:l9):Decidable (crR r c):=inferInstanceAs (Decidable (_≤_))
def a4r (r:l7):Prop:=r.Issuers.length≤8∧r.Credentials.length≤24∧(∀i∈r.Issuers,c1n i)∧(∀c∈r.Credentials,d3y r.Issuers.length c)∧∀c∈r.Credentials,crR r c
instance (r:l7):Decidable (a4r r):=inferInstanceAs (Decidable (_∧_∧_∧_∧_))
theorem b7r {α:Type} (p:α→Bool):∀(l:List α) (k:Nat),(b5j p k l).length≤l.length
 | [],k=>vJ _
 | x::r,k=>by
  simp only [b5j]
  have:=b7r p r (k+1)
  cases p x<;>simp<;>omega
theorem b7n {α:Type} [Inhabited α] {p:α→Bool} {i:Int}:∀{l:List α} {k:Nat},i∈b5j p k l↔∃j,j<l.length∧i=(k+j:Nat)∧p (l.getD j default)=true
 | [],k=>by simp [b5j]
 | x::r,k=>by
  simp only [b5j]
  have ih:=b7n (p:=p) (i:=i) (l:=r) (k:=k+1)
  have e:(∃j,j<(x::r).length∧i=(k+j:Nat)∧p ((x::r).getD j default)=true)↔(i=k∧p x=true)∨∃j,j<r.length∧i=(k+1+j:Nat)∧p (r.getD j default)=true:=by
   constructor
   ·rintro ⟨j,h1,h2,h3⟩
    cases j with
    | zero=>exact .inl ⟨by simpa using h2,by simpa using h3⟩
    | succ j=>exact .inr ⟨j,by simpa using h1,by rw [h2];omega,by simpa using h3⟩
   ·rintro (⟨h1,h2⟩|⟨j,h1,h2,h3⟩)
    ·exact ⟨0,by simp,by simpa using h1,by simpa using h2⟩
    ·exact ⟨j+1,by simpa using h1,by rw [h2];omega,by simpa using h3⟩
  rw [e,←ih]
  cases hp:p x<;>simp
theorem a6d {α:Type} {body:Int→α→List Int→Option (List Int)} (p:α→Bool) (n:Nat) (hn:n≤100000):∀(l:List α) (k:Nat) (s:List Int),s.length+l.length≤n →
  (∀(k:Int) (a:α) (x:List Int),a∈l→x.length<n→body k a x=some (bif p a then x++[k] else x))→foldL body l (k:Int) s=some (s++b5j p k l)
 | [],k,s,h,hb=>by simp [foldL,b5j]
 | a::r,k,s,h,hb=>by
  simp only [wA] at h
  simp only [foldL,hb k a s (by simp) (by omega),xX]
  have e:((k:Int)+1)=((k+1:Nat):Int):=by omega
  rw [e]
  cases hp:p a with
  | true =>
   rw [vO,a6d p n hn r (k+1) _ (by simp;omega) fun k a x ha=>hb k a x (by simp [ha])]
   simp [b5j,hp]
  | false =>
   rw [vM,a6d p n hn r (k+1) _ (by omega) fun k a x ha=>hb k a x (by simp [ha])]
   simp [b5j,hp]
theorem c77 (x a b:Int):e1c x a b=some (decide (a≤x)&&decide (x≤b)):=rfl
theorem d57 (x a b:Int):e1h x a b=some (decide (a≤x)&&decide (x≤b)):=rfl
theorem b1b {a b x:Int}:((decide (a≤x)&&decide (x≤b))=true)↔(a≤x∧x≤b):=by simp
theorem c4r (s:Str) (h:s.length≤40):Ok (loop (f8u s) 0) fun r=>(r=.inl ()∧∀c∈s,97≤c.toNat∧c.toNat≤122)∨(r=.inr false∧¬∀c∈s,97≤c.toNat∧c.toNat≤122):=by
 refine Ok.loop (fun x:Int=>0≤x∧x≤s.length∧∀c∈s.take x.toNat,97≤c.toNat∧c.toNat≤122) (fun x:Int=>(s.length - x).toNat) (fun x hx=>?_) 0 ⟨by omega,by omega,by simp⟩
 obtain ⟨h0,h1,h2⟩:=hx
 unfold f8u
 refine Ok.ite (fun c=>?_) fun c=>?_
 ·have c:x<s.length:=by simpa using c
  have hi:x.toNat<s.length:=by omega
  have hm:s.getD x.toNat 0∈s:=by simp [zE,hi]
  refine Ok.chk (u6.2 ⟨h0,c⟩) (Ok.ite (fun c1=>Ok.ret ?_) fun c1=>Ok.chk (u6.2 ⟨h0,c⟩) (Ok.ite (fun c2=>Ok.ret ?_) fun c2=>Ok.chk (z8 (by omega) (by omega)) (Ok.ret ?_)))
  ·refine .inr ⟨rfl,fun hh=>?_⟩
   have:=hh _ hm
   have c1:((s.getD x.toNat 0).toNat:Int)<97:=by simpa using c1
   omega
  ·refine .inr ⟨rfl,fun hh=>?_⟩
   have:=hh _ hm
   have c2:122<((s.getD x.toNat 0).toNat:Int):=by simpa using c2
   omega
  ·have c1:¬((s.getD x.toNat 0).toNat:Int)<97:=by simpa using c1
   have c2:¬122<((s.getD x.toNat 0).toNat:Int):=by simpa using c2
   refine ⟨⟨by omega,by omega,fun q hq=>?_⟩,by omega⟩
   rw [show (x+1).toNat=x.toNat+1 by omega,List.take_add_one] at hq
   rcases wL.1 hq with hq|hq
   ·exact h2 q hq
   ·rw [zJ hi] at hq
    simp only [Option.toList_some,xF] at hq
    subst hq
    have:s.getD x.toNat 0=s[x.toNat]:=by simp [zE,hi]
    rw [this] at c1 c2
    omega
 ·have c:¬x<s.length:=by simpa using c
  refine Ok.ret (.inl ⟨rfl,?_⟩)
  rwa [show x.toNat=s.length by omega,xY] at h2
theorem d1j (s:Str) (hs:s.length≤1000000):f4v s=some (decide (e2k s)):=by
 unfold f4v
 rw [c77,xX]
 by_cases h:1≤s.length∧s.length≤40
 ·have e:(decide ((1:Int)≤s.length)&&decide ((s.length:Int)≤40))=true:=b1b.2 (by omega)
  rw [e]
  obtain ⟨r,e1,e2⟩:=c4r s h.2
  simp only [w4,vM,e1,xX]
  rcases e2 with ⟨rfl,e2⟩|⟨rfl,e2⟩
  ·simp only [Sum.elim_inl];rw [wT ⟨h.1,h.2,e2⟩]
  ·simp only [Sum.elim_inr];rw [wG fun hh=>e2 hh.2.2]
 ·have e:(decide ((1:Int)≤s.length)&&decide ((s.length:Int)≤40))=false:=by
   rw [Bool.eq_false_iff];intro hh;have:=b1b.1 hh;omega
  rw [e]
  simp only [wV,vO]
  rw [wG fun hh=>h ⟨hh.1,hh.2.1⟩]
theorem b69 (r:l7) (c:l9) (h:r.Issuers.length≤8):f3o r c=some (decide (d3y r.Issuers.length c)):=by
 unfold f3o
 rw [p8 (z8 (by omega) (by omega))]
 simp only [c77,xX,jn,grp]
 cases h1:(decide (0≤c.Issuer)&&decide (c.Issuer≤(r.Issuers.length:Int) - 1)) with
 | false =>
  simp only [vM,xX,Bool.false_and]
  rw [wG];intro hh
  have:(decide (0≤c.Issuer)&&decide (c.Issuer≤(r.Issuers.length:Int) - 1))=true:=b1b.2 ⟨hh.1,by have:=hh.2.1;omega⟩
  rw [h1] at this;cases this
 | true =>
  have h1:=b1b.1 h1
  simp only [vO,xX]
  congr 1
  rw [wS]
  simp only [wE,xM]
  constructor
  ·rintro ⟨⟨⟨⟨a,b⟩,c'⟩,d⟩,e⟩
   exact ⟨h1.1,by omega,a,b,c',d,e⟩
  ·rintro ⟨_,_,a,b,c',d,e⟩
   exact ⟨⟨⟨⟨a,b⟩,c'⟩,d⟩,e⟩
theorem d1k (r:l7) (i h t:Int) (hn:r.Credentials.length≤24):f4u r i h t=some (e9e r.Credentials i h t):=by
 unfold f4u
 rw [show (0:Int)=((0:Nat):Int) from rfl,a6d (hdB i h t) 24 (by omega) r.Credentials 0 [] (by simpa using hn) fun k a x ha hx=>?_]
 ·rfl
 ·unfold g4m
  simp only [grp,hdB]
  cases (decide (a.Issuer=i)&&decide (a.Holder=h)&&decide (a.From≤t)&&decide (t<a.Until)) with
  | false=>rfl
  | true=>simp only [vO];rw [p8 (a0p (by simp;omega))]
theorem a2l {α ρ:Type} {f:α→Option ρ} {p:α→Prop} [DecidablePred p] {y:ρ}:∀{l:List α},(∀x∈l,f x=if p x then none else some y)→a5c f l=if (∀x∈l,p x) then none else some y
 | [],h=>by simp [a5c]
 | x::r,h=>by
  simp only [a5c,h x (by simp)]
  by_cases hp:p x
  ·simp only [hp,if_true]
   rw [a2l (p:=p) (y:=y) fun x hx=>h x (by simp [hx])]
   by_cases hq:∀x∈r,p x
   ·rw [if_pos hq,if_pos (by simpa using ⟨hp,hq⟩)]
   ·rw [if_neg hq,if_neg fun hh=>hq fun x hx=>hh x (by simp [hx])]
  ·simp only [hp,if_false]
   rw [if_neg fun hh=>hp (hh x (by simp))]
theorem b3t (r:l7) (hn:∀i∈r.Issuers,i.Name.length≤1000000):F_o r=some (decide (a4r r)):=by
 unfold F_o
 simp only [grp]
 by_cases h0:r.Issuers.length≤8∧r.Credentials.length≤24
 ·have e:(decide ((8:Int)<r.Issuers.length)||decide ((24:Int)<r.Credentials.length))=false:=by simp;omega
  rw [e,vM]
  rw [a1c (fun i=>if c1n i then none else some false) r.Issuers 0 fun k a ha=>?_]
  ·rw [a2l (p:=c1n) (y:=false) fun _ _=>rfl,xX,a3t]
   by_cases h1:∀i∈r.Issuers,c1n i
   ·rw [if_pos h1]
    simp only
    rw [a1c (fun c=>if d3y r.Issuers.length c then none else some false) r.Credentials 0 fun k a ha=>?_]
    ·rw [a2l (p:=d3y r.Issuers.length) (y:=false) fun _ _=>rfl,xX,a3t]
     by_cases h2:∀c∈r.Credentials,d3y r.Issuers.length c
     ·rw [if_pos h2]
      simp only
      rw [a1c (fun c=>if crR r c then none else some false) r.Credentials 0 fun k a ha=>?_]
      ·rw [a2l (p:=crR r) (y:=false) fun _ _=>rfl,xX,a3t]
       by_cases h3:∀c∈r.Credentials,crR r c
       ·rw [if_pos h3,wT ⟨h0.1,h0.2,h1,h2,h3⟩]
       ·rw [if_neg h3,wG fun hh=>h3 hh.2.2.2.2]
      ·unfold g4l
       obtain ⟨q1,q2,_⟩:=h2 a ha
       rw [d1k r _ _ _ h0.2,xX,p8 (u6.2 ⟨q1,q2⟩)]
       by_cases hc:crR r a
       ·rw [if_pos hc];unfold crR at hc;rw [wG (by omega)];rfl
       ·rw [if_neg hc];unfold crR at hc;rw [wT (by omega)];rfl
     ·rw [if_neg h2,wG fun hh=>h2 hh.2.2.2.1]
    ·unfold g5x
     rw [b69 r a h0.1,xX]
     by_cases hc:d3y r.Issuers.length a
     ·rw [if_pos hc,wT hc];rfl
     ·rw [if_neg hc,wG hc];rfl
   ·rw [if_neg h1,wG fun hh=>h1 hh.2.2.1]
  ·unfold g6j
   rw [d1j _ (hn a ha),xX,c77]
   by_cases h1:e2k a.Name
   ·rw [wT h1]
    simp only [w4,vM,xX]
    by_cases h2:1≤a.Slots∧a.Slots≤2
    ·rw [b1b.2 h2,if_pos ⟨h1,h2⟩];rfl
    ·rw [if_neg fun hh=>h2 hh.2,show (decide (1≤a.Slots)&&decide (a.Slots≤2))=false by rw [Bool.eq_false_iff];exact fun hh=>h2 (b1b.1 hh)];rfl
   ·rw [wG h1,if_neg fun hh=>h1 hh.1];rfl
 ·have e:(decide ((8:Int)<r.Issuers.length)||decide ((24:Int)<r.Credentials.length))=true:=by simp;omega
  rw [e,vO,wG fun hh=>h0 ⟨hh.1,hh.2.1⟩]
theorem d2v {r:l7} {c:l9} (h:a4r r):Ok (f3n r c) fun y=>y.2.2=0→a4r y.1∧y.1.Issuers=r.Issuers:=by
 have hn:∀i∈r.Issuers,i.Name.length≤1000000:=fun i hi=>by have:=(h.2.2.1 i hi).1.2.1;omega
 unfold f3n
 rw [b3t r hn,xX,wT h]
 simp only [w4,vM]
 refine Ok.ite (fun c=>Ok.ret fun e=>by simp at e) fun c1=>?_
 have c1:¬(24:Int)≤r.Credentials.length:=by simpa using c1
 unfold f7v
 have l8:=h.1
 rw [p8 (a0p (by omega)),p8 (a0p (by omega)),xX]
 refine Ok.chk (a0p (by simp;omega)) ?_
 rw [b3t (l7.mk r.Issuers (r.Credentials++[c])) hn,xX]
 by_cases hk:a4r ⟨r.Issuers,r.Credentials++[c]⟩
 ·rw [wT hk]
  exact Ok.ret fun _=>⟨hk,rfl⟩
 ·rw [wG hk]
  exact Ok.ret fun e=>by simp at e
theorem e95:e2k [105,115,115,117,101,114]:=by decide
theorem c0z {t:x8} (h:TOK t):Ok (f5z t) fun y=>a4r y.1∧TOK y.2:=by
 unfold f5z
 refine Ok.bind (a1u h (by omega) (by omega) (by omega)) fun y hy=>?_
 refine Ok.bind (Ok.loop (Q:=fun y:List a0j×x8=>y.1.length≤2∧1≤y.1.length∧(∀i∈y.1,c1n i)∧TOK y.2) (fun x=>0≤x.1∧(x.2.1.length:Int)+x.1≤2∧1≤(x.2.1.length:Int)+x.1∧(∀i∈x.2.1,c1n i)∧TOK x.2.2) (fun x=>x.1.toNat) (fun x hx=>?_) _ ?_) fun r hr=>?_
 ·obtain ⟨k,out,t⟩:=x
  obtain ⟨h1,h2,h2',h3,h4⟩:=hx
  simp only at h1 h2 h2' h3 h4
  unfold g6i
  refine Ok.ite (fun c=>?_) fun c=>?_
  ·have c:0<k:=by simpa using c
   refine Ok.bind (a1u h4 (by omega) (by omega) (by omega)) fun y hy=>?_
   refine Ok.chk (a0p (by simp;omega)) (Ok.chk (z8 (by simp only;omega) (by simp only;omega)) (Ok.ret ?_))
   simp only [Fl.elim]
   refine ⟨⟨by omega,by simp;omega,by simp;omega,fun i hi=>?_,hy.2.2⟩,by omega⟩
   simp only [wL,xF] at hi
   rcases hi with hi|rfl
   ·exact h3 i hi
   ·exact ⟨e95,hy.1,hy.2.1⟩
  ·have c:¬0<k:=by simpa using c
   refine Ok.ret ?_
   simp only [Fl.elim]
   exact ⟨by omega,by omega,h3,h4⟩
 ·exact ⟨by show 0≤y.1;omega,by show ((0:Nat):Int)+y.1≤2;omega,by show 1≤((0:Nat):Int)+y.1;omega,by simp,hy.2.2⟩
 ·obtain ⟨r1,r1',r2,r3⟩:=hr
  refine Ok.bind (a0l r3 (by omega)) fun z hz=>?_
  refine Ok.bind (Ok.loop (Q:=fun y:l7×x8=>a4r y.1∧TOK y.2) (fun x=>0≤x.1∧x.1≤8∧a4r x.2.1∧1≤x.2.1.Issuers.length∧TOK x.2.2) (fun x=>x.1.toNat) (fun x hx=>?_) _ ?_) fun r hr=>Ok.ret hr
  ·obtain ⟨k,reg,t⟩:=x
   obtain ⟨h1,h2,h3,h3',h4⟩:=hx
   simp only at h1 h2 h3 h3' h4
   unfold g4k
   refine Ok.ite (fun c=>?_) fun c=>Ok.ret ⟨h3,h4⟩
   have c:0<k:=by simpa using c
   refine Ok.jn (P:=fun j:l7×x8=>a4r j.1∧1≤j.1.Issuers.length∧TOK j.2) ?_ fun j hj=>Ok.chk (z8 (by simp only;omega) (by simp only;omega)) (Ok.ret ?_)
   ·refine Ok.bind (P:=fun y:l9×x8=>TOK y.2) ?_ fun y hy=>Ok.bind (d2v h3) fun w hw=>?_
    ·unfold f7w
     refine Ok.bind (a0l h4 (by omega)) fun a ha=>Ok.bind (a0l ha.2.2 (by simp only;omega)) fun b hb=>Ok.bind (a0l hb.2.2 (by omega)) fun c hc=>Ok.bind (a0l hc.2.2 (by omega)) fun d hd=>?_
     exact Ok.chk (z8 (by omega) (by omega)) (Ok.bind (a0l hd.2.2 (by omega)) fun e he=>Ok.chk (z8 (by omega) (by omega)) (Ok.ret he.2.2))
    ·refine Ok.ite (fun c=>Ok.ret ?_) fun c=>Ok.ret ⟨h3,h3',hy⟩
     have:=hw (by simpa using c)
     exact ⟨this.1,by rw [this.2];exact h3',hy⟩
   ·simp only [Fl.elim]
    exact ⟨⟨by omega,by omega,hj⟩,by omega⟩
  ·have r3:(r.1.length:Int)≤2:=by omega
   exact ⟨hz.1,by show z.1≤8;omega,⟨by show r.1.length≤8;omega,by simp,r2,by simp,by simp⟩,r1',hz.2.2⟩
def c61 (f:w9):Prop:=(f.Slots=1∨f.Slots=2)∧1≤f.Consumers.length∧f.Consumers.length≤8∧∀c∈f.Consumers,0≤c.Pool∧c.Pool≤7
def bOK (dual:Bool) (kn x:Int):Prop:=x=1∨kn=3∧(x=2∨x=3∧dual=true)
def d67 (c:u7) (kn:Int) (u:a1b):Prop:=bOK c.Dual kn u.Stored∧(u.Up=false→u.Used=0)∧(u.Up=true→bOK c.Dual kn u.Used∧(c.Live=true→u.Used=u.Stored))
def b0x (f:w9) (s:o5):Prop:=c61 f∧(s.Known=1∨s.Known=3)∧(s.Valid=1∨s.Known=3∧(s.Valid=2∨s.Valid=3∧f.Slots=2))∧s.Units.length=f.Consumers.length ∧
 ∀k,k<s.Units.length→d67 (f.Consumers.getD k default) s.Known (s.Units.getD k default)
theorem g2o:bits .andNot .i64 1 1=0:=by decide
theorem g2n:bits .andNot .i64 1 3=0:=by decide
theorem g2m:bits .andNot .i64 2 3=0:=by decide
theorem g2l:bits .andNot .i64 3 3=0:=by decide
theorem g6w:bits .or .i64 1 2=3:=by decide
theorem h09:bits .or .i64 3 2=3:=by decide
theorem g2k:bits .and .i64 1 2=0:=by decide
theorem c78 (x a b:Int):d4s x a b=some (decide (a≤x)&&decide (x≤b)):=rfl
theorem b7b {f:w9} (h:c61 f):e1o f=some true:=by
 obtain ⟨h1,h2,h3,h4⟩:=h
 unfold e1o
 have e1:(decide (1≤f.Slots)&&decide (f.Slots≤2))=true:=b1b.2 (by omega)
 have e2:(decide ((1:Int)≤f.Consumers.length)&&decide ((f.Consumers.length:Int)≤8))=true:=b1b.2 (by omega)
 simp only [c78,xX,e1,e2,w4,vM]
 rw [a1c (fun _=>(none:Option Bool)) f.Consumers 0 fun k a ha=>?_]
 ·rw [a2l (p:=fun _=>True) (y:=true) fun _ _=>by simp,if_pos (fun _ _=>trivial)];rfl
 ·unfold g4w
  rw [c78,xX,b1b.2 (h4 a ha)];rfl
theorem d03 {c:u7} {s:o5} {x:Int} (hk:s.Known=1∨s.Known=3) (h:bOK c.Dual s.Known x):e2w c s x=some true:=by
 unfold e2w
 have e1:(decide (1≤x)&&decide (x≤3))=true:=b1b.2 (by rcases h with h|⟨_,h|⟨h,_⟩⟩<;>omega)
 rw [c78,xX,e1]
 simp only [jn,grp,vO,xX]
 rcases h with rfl|⟨hk,rfl|⟨rfl,hd⟩⟩
 ·rcases hk with hk|hk<;>rw [hk]
  ·rw [g2o];rfl
  ·rw [g2n];rfl
 ·rw [hk,g2m];rfl
 ·rw [hk,g2l,hd];rfl
theorem b7c {f:w9} {s:o5} (h:b0x f s):e1v f s=some true:=by
 obtain ⟨hf,hk,hv,hl,hu⟩:=h
 unfold e1v
 rw [b7b hf,xX]
 have e1:((!decide (s.Known=1))&&(!decide (s.Known=3)))=false:=by rcases hk with hk|hk<;>rw [hk]<;>rfl
 have e2:(decide (1≤s.Valid)&&decide (s.Valid≤3))=true:=b1b.2 (by rcases hv with h|⟨_,h|⟨h,_⟩⟩<;>omega)
 have e3:(!decide ((bits .andNot .i64 s.Valid s.Known)=0)||(decide (s.Valid=3)&&decide (f.Slots=1)))=false:=by
  rcases hv with h|⟨h',h|⟨h,h''⟩⟩
  ·rcases hk with hk|hk<;>rw [h,hk]
   ·rw [g2o];rfl
   ·rw [g2n];rfl
  ·rw [h,h',g2m];rfl
  ·rw [h,h',g2l,h''];rfl
 have e4:(!decide ((s.Units.length:Int)=(f.Consumers.length:Int)))=false:=by rw [hl];simp
 simp only [jn,grp,w4,w5,e1,vM,c78,xX,e2,e3,e4,Fl.elim]
 refine Ok.eq (Ok.bind (Ok.forI (all:=s.Units) (Q:=fun y=>y=Fl.nx ()) (fun _ _=>True) s.Units [] 0 () rfl rfl trivial (fun pre u q x hw _=>?_) fun _ _=>rfl) fun y hy=>by rw [hy];exact Ok.ret rfl)
 have hp:pre.length<s.Units.length:=by rw [hw];simp
 have hx:s.Units.getD pre.length default=u:=by rw [hw];simp
 obtain ⟨u1,u2,u3⟩:=hu _ hp
 rw [hx] at u1 u2 u3
 unfold g61
 refine Ok.chk (u6.2 ⟨by omega,by omega⟩) ?_
 rw [xU,d03 hk u1,xX]
 cases hup:u.Up with
 | false =>
  rw [u2 hup]
  exact Ok.ret trivial
 | true =>
  obtain ⟨u4,u5⟩:=u3 hup
  rw [d03 hk u4]
  cases hl2:(f.Consumers.getD pre.length default).Live with
  | false=>exact Ok.ret trivial
  | true=>rw [u5 hl2];simp only [grp,w4,w5,Bool.false_and,vM,vO,xX,Bool.true_and,decide_true];exact Ok.ret trivial
theorem e94 {f:w9} {x:GStep} (hl:1≤f.Consumers.length):Ok (f5r f x) fun y=>y=true→0≤x.Unit∧x.Unit<f.Consumers.length:=by
 unfold f5r
 refine Ok.jn (P:=fun _=>True) ?_ fun j _=>?_
 ·refine Ok.ite (fun _=>Ok.ret trivial) fun _=>Ok.ite (fun _=>Ok.ret trivial) fun _=>Ok.ite (fun _=>Ok.ret trivial) fun _=>Ok.ret trivial
 ·refine Ok.ite (fun _=>Ok.ret fun e=>?_) fun _=>?_
  ·have e:x.Unit=0:=by simpa using e
   omega
  ·refine Ok.jn (P:=fun _=>True) ?_ fun j _=>?_
   ·refine Ok.ite (fun _=>Ok.ret trivial) fun _=>Ok.ite (fun _=>Ok.ret trivial) fun _=>Ok.ite (fun _=>Ok.ret trivial) fun _=>Ok.ret trivial
   ·refine Ok.ite (fun _=>Ok.grp (Ok.ret fun e=>?_)) fun _=>Ok.ret fun e=>by cases e
    simpa using e
theorem c27 {k:Int} (h:k=1∨k=3):(!decide ((bits .and .i64 k 2)=0))=true→k=3:=by
 rcases h with rfl|rfl
 ·rw [g2k];intro h;simp at h
 ·intro _;rfl
theorem e4n {f:w9} {s:o5} (h:b0x f s) {n:Nat} (hn:n<s.Units.length) {u:a1b} (hu:d67 (f.Consumers.getD n default) s.Known u):b0x f ⟨s.Known,s.Valid,s.Units.set n u⟩:=by
 obtain ⟨hf,hk,hv,hl,ho⟩:=h
 refine ⟨hf,hk,hv,by simpa using hl,fun k hk=>?_⟩
 simp only [List.length_set] at hk
 by_cases e:n=k
 ·subst e
  have:(s.Units.set n u).getD n default=u:=by simp [zE,hk]
  rw [this];exact hu
 ·have:(s.Units.set n u).getD k default=s.Units.getD k default:=by simp [zE,xP,e]
  rw [this];exact ho k hk
theorem c6f {c:u7} {k:Int} {u:a1b} (h:d67 c k u):d67 c 3 u:=by
 have up:∀{x},bOK c.Dual k x→bOK c.Dual 3 x:=fun h=>h.imp id fun h=>⟨rfl,h.2⟩
 exact ⟨up h.1,h.2.1,fun hu=>⟨up (h.2.2 hu).1,(h.2.2 hu).2⟩⟩
theorem h0m {f:w9} {s:o5} {x:GStep} (h:b0x f s) (h0:0≤x.Unit) (h1:x.Unit<f.Consumers.length):Ok (f5q f s x) fun y=>y.2=true→b0x f y.1:=by
 have h':=h
 obtain ⟨hf,hk,hv,hl,ho⟩:=h
 have hn:x.Unit.toNat<s.Units.length:=by omega
 obtain ⟨u1,u2,u3⟩:=ho _ hn
 unfold f5q f7y
 have l8:=hf.2.2.1
 rw [p8 (a0p (by omega)),xX]
 simp only
 refine Ok.chk (u6.2 ⟨h0,by omega⟩) (Ok.chk (u6.2 ⟨h0,h1⟩) ?_)
 generalize hU:s.Units.getD x.Unit.toNat default=U at *
 generalize hC:f.Consumers.getD x.Unit.toNat default=C at *
 obtain ⟨D,hD⟩:∃D:a1b→Prop,D=fun V=>bOK C.Dual s.Known V.Stored∧(V.Up=false→V.Used=0)∧(V.Up=true→C.Live=true∨bOK C.Dual s.Known V.Used):=⟨_,rfl⟩
 refine Ok.jn (P:=fun o:Fl (Bool×a1b) (o5×Bool)=>o.elim (fun j=>j.1=true→D j.2) fun r=>r.2=true→b0x f r.1) ?_ fun o hO=>?_
 ·refine Ok.ite (fun _=>Ok.ret fun e=>?_) fun _=>Ok.ite (fun _=>Ok.grp (Ok.grp (Ok.ret fun e=>?_))) fun _=>Ok.ite (fun _=>Ok.grp (Ok.ret fun e=>?_)) fun _=>Ok.ite (fun _=>Ok.ret fun e=>?_) fun _=>Ok.ite (fun _=>?_) fun _=>Ok.ite (fun _=>Ok.ret fun e=>?_) fun _=>Ok.ite (fun _=>Ok.ret fun e=>?_) fun _=>Ok.ite (fun _=>Ok.ret fun e=>?_) fun _=>Ok.ret fun e=>by cases e
  · -- make
   have hor:bits .or .i64 s.Known 2=3:=by rcases hk with hk|hk<;>rw [hk];exact g6w;exact h09
   refine ⟨hf,.inr hor,?_,hl,fun k hk=>?_⟩
   ·rcases hv with hv|hv
    ·exact .inl hv
    ·exact .inr ⟨hor,hv.2⟩
   ·simp only [hor];exact c6f (ho k hk)
  · -- enable
   simp only [wE] at e
   obtain ⟨⟨e1,e2⟩,e3⟩:=e
   have e1:=c27 hk e1
   have e2:s.Valid=1:=by simpa using e2
   have e3:f.Slots=2:=by simpa using e3
   refine ⟨hf,hk,.inr ⟨e1,.inr ⟨?_,e3⟩⟩,hl,ho⟩
   simp only [e2];exact g6w
  · -- swap
   simp only [wE] at e
   exact ⟨hf,hk,.inr ⟨c27 hk e.1,.inl rfl⟩,hl,ho⟩
  · -- revoke
   have e:s.Valid=3:=by simpa using e
   refine ⟨hf,hk,.inr ⟨?_,.inl rfl⟩,hl,ho⟩
   rcases hv with hv|hv
   ·omega
   ·exact hv.1
  · -- give
   refine Ok.jn (P:=fun j:Bool=>j=true→s.Known=3) (Ok.ite (fun c=>Ok.ret fun _=>c27 hk c) fun _=>Ok.ret fun e=>by cases e) fun j hj=>?_
   refine Ok.ite (fun c=>Ok.ret fun e=>?_) fun c=>Ok.ret fun e=>?_
   ·rw [hD]
    exact ⟨.inr ⟨hj e,.inr ⟨rfl,c⟩⟩,u2,fun hu=>.inr (u3 hu).1⟩
   ·rw [hD]
    exact ⟨.inr ⟨hj e,.inl rfl⟩,u2,fun hu=>.inr (u3 hu).1⟩
  · -- drop
   have e:U.Stored=3:=by simpa using e
   have hk3:s.Known=3:=by
    rcases u1 with u1|u1
    ·omega
    ·exact u1.1
   rw [hD]
   exact ⟨.inr ⟨hk3,.inl rfl⟩,u2,fun hu=>.inr (u3 hu).1⟩
  · -- stop
   rw [hD]
   exact ⟨u1,fun _=>rfl,fun hu=>by cases hu⟩
  · -- start
   rw [hD]
   exact ⟨u1,fun hu=>(by cases hu),fun _=>.inr u1⟩
 ·cases o with
  | ex r=>exact Ok.ret hO
  | nx j =>
   simp only [Fl.elim] at hO ⊢
   refine Ok.jn (P:=fun V:a1b=>j.1=true→d67 C s.Known V) (Ok.grp (Ok.ite (fun c=>Ok.ret fun e=>?_) fun c=>Ok.ret fun e=>?_)) fun V hV=>Ok.chk (u6.2 ⟨h0,by omega⟩) (Ok.ret fun e=>e4n h' hn (by rw [hC];exact hV e))
   ·have:=hO e
    rw [hD] at this
    simp only [wE] at c
    exact ⟨this.1,fun hu=>(by rw [c.2] at hu;cases hu),fun _=>⟨this.1,fun _=>rfl⟩⟩
   ·have:=hO e
    rw [hD] at this
    refine ⟨this.1,this.2.1,fun hu=>⟨?_,fun hl=>?_⟩⟩
    ·rcases this.2.2 hu with hl|hb
     ·rw [hl,hu] at c;cases c
     ·exact hb
    ·rw [hl,hu] at c;cases c
theorem e0t {f:w9} {s:o5} {x:GStep} (h:b0x f s):Ok (F_n f s x) fun y=>y.2=0→b0x f y.1:=by
 unfold F_n
 rw [b7c h,xX]
 simp only [w4,vM]
 refine Ok.bind (e94 h.1.2.1) fun k hk=>Ok.ite (fun _=>Ok.ret fun e=>by simp at e) fun c=>?_
 have hu:=hk (by simpa using c)
 refine Ok.bind (h0m h hu.1 hu.2) fun y hy=>Ok.ite (fun _=>Ok.ret fun e=>by simp at e) fun c=>Ok.ret fun _=>hy (by simpa using c)
theorem c0i {f:w9} (h:c61 f) (p:Int):F_m f p=some (b5j (fun c:u7=>decide (c.Pool=p)) 0 f.Consumers):=by
 unfold F_m
 rw [b7b h,xX]
 simp only [w4,vM]
 rw [show (0:Int)=((0:Nat):Int) from rfl,a6d (fun c:u7=>decide (c.Pool=p)) 24 (by omega) f.Consumers 0 [] (by have:=h.2.2.1;simp;omega) fun k a x ha hx=>?_]
 ·rfl
 ·unfold g4v
  cases decide (a.Pool=p) with
  | false=>rfl
  | true=>simp only [vO];rw [p8 (a0p (by simp;omega))]
theorem d7k {f:w9} (h:c61 f):Ok (f5p f) fun y=>y.length≤8:=by
 unfold f5p
 refine Ok.bind (Ok.loop (Q:=fun y:List Int=>y.length≤8) (fun x=>0≤x.1∧x.1≤8∧(x.2.length:Int)≤x.1) (fun x=>(8 - x.1).toNat) (fun x hx=>?_) _ ⟨by show (0:Int)≤0;omega,by show (0:Int)≤8;omega,by show ((0:Nat):Int)≤0;omega⟩) fun r hr=>Ok.ret hr
 obtain ⟨k,out⟩:=x
 obtain ⟨h1,h2,h3⟩:=hx
 simp only at h1 h2 h3
 unfold g4t
 refine Ok.ite (fun c=>?_) fun c=>Ok.ret (by show out.length≤8;omega)
 have c:k≤7:=by simpa using c
 refine Ok.jn (P:=fun j:List Int=>j.length≤out.length+1) ?_ fun j hj=>Ok.chk (z8 (by simp only;omega) (by simp only;omega)) (Ok.ret ⟨⟨by show 0≤k+1;omega,by show k+1≤8;omega,by show (j.length:Int)≤k+1;omega⟩,by show (8 - (k+1)).toNat<(8 - k).toNat;omega⟩)
 rw [c0i h,xX]
 exact Ok.ite (fun _=>Ok.chk (a0p (by simp;omega)) (Ok.ret (by simp))) fun _=>Ok.ret (by simp)
theorem d14 {f:w9} {s:o5} (h:b0x f s) (u:Int):Ok (f3q f s u) fun _=>True:=by
 unfold f3q
 rw [b7c h,xX]
 simp only [vO]
 have:=h.1.2.2.1
 have:=h.2.2.2.1
 refine Ok.chk (z8 (by omega) (by omega)) ?_
 rw [c78,xX]
 refine Ok.ite (fun c=>?_) fun _=>Ok.ret trivial
 have c:=b1b.1 c
 exact Ok.chk (u6.2 ⟨c.1,by omega⟩) (Ok.ite (fun _=>Ok.chk (u6.2 ⟨c.1,by omega⟩) (Ok.ret trivial)) fun _=>Ok.ret trivial)
theorem c2m {f:w9} {s:o5} (h:b0x f s):Ok (e3n f s) fun y=>y.length≤8:=by
 unfold e3n
 refine Ok.bind (d7k h.1) fun ps hp=>Ok.bind (Ok.foldI (all:=ps) (Q:=fun y=>y.length≤8) (fun pre x=>x.length≤pre.length) ps [] 0 [] rfl rfl (by simp) (fun pre x r q hw hq=>?_) fun y hy=>by omega) fun y hy=>Ok.ret hy
 have hl:pre.length<ps.length:=by rw [hw];simp
 unfold g4s
 rw [c0i h.1,xX]
 refine Ok.bind (Ok.for (Q:=fun o:Fl Unit (List Int)=>o.elim (fun _=>True) fun y=>y.length≤q.length+1) (fun _=>True) _ 0 () trivial (fun k a u _ _=>?_) fun _ _=>trivial) fun o ho=>?_
 ·unfold g60
  exact Ok.bind (d14 h a) fun y _=>Ok.ite (fun _=>Ok.chk (a0p (by simp;omega)) (Ok.ret (by simp [Fl.elim]))) fun _=>Ok.ret trivial
 ·cases o with
  | nx _=>exact Ok.ret (by simp;omega)
  | ex y=>exact Ok.ret (by have:y.length≤q.length+1:=ho;simp;omega)
theorem e4q {f:w9} {s t:o5} (h:b0x f s) (ht:b0x f t):Ok (f5o f s t) fun _=>True:=by
 unfold f5o
 refine Ok.bind (c2m ht) fun y _=>Ok.bind (c2m h) fun z _=>Ok.bind (Ok.for (Q:=fun _=>True) (fun _=>True) z 0 () trivial (fun k a u _ _=>?_) fun _ _=>trivial) fun o _=>by cases o<;>exact Ok.ret trivial
 unfold g4r
 refine Ok.bind (Ok.fold (Q:=fun _=>True) (fun _=>True) y 0 false trivial (fun k b x _ _=>Ok.ret trivial) fun _ _=>trivial) fun b _=>Ok.ite (fun _=>Ok.ret trivial) fun _=>Ok.ret trivial
theorem f2x {f:w9} {s:o5} {x:GStep} (h:b0x f s):Ok (f3p f s x) fun y=>y=true→Ok (F_n f s x) fun z=>b0x f z.1:=by
 unfold f3p
 obtain ⟨y,e,hy⟩:=e0t (x:=x) h
 rw [e,xX]
 refine Ok.jn (P:=fun j:Bool=>j=true→y.2=0) ?_ fun j hj=>Ok.ret fun e1=>⟨y,rfl,hy (hj e1)⟩
 refine Ok.ite (fun c=>Ok.bind (e4q h (hy (by simpa using c))) fun _ _=>Ok.ret fun _=>by simpa using c) fun _=>Ok.ret fun e=>by cases e
theorem c9m {f:w9} {s:o5} (h:b0x f s):Ok (f5n f s) fun l=>l.length≤64∧∀x∈l,Ok (F_n f s x) fun z=>b0x f z.1:=by
 have l8:=h.1.2.2.1
 unfold f5n
 refine Ok.bind (Ok.loop (Q:=fun l:List GStep=>l.length≤64∧∀x∈l,Ok (F_n f s x) fun z=>b0x f z.1) (fun x=>1≤x.1∧x.1≤9∧(x.2.length:Int)≤8*(x.1 - 1)∧∀y∈x.2,Ok (F_n f s y) fun z=>b0x f z.1) (fun x=>(9 - x.1).toNat) (fun x hx=>?_) _ ⟨by show (1:Int)≤1;omega,by show (1:Int)≤9;omega,by show ((0:Nat):Int)≤8*(1 - 1);omega,by simp⟩) fun r hr=>Ok.ret hr
 obtain ⟨k,out⟩:=x
 obtain ⟨h1,h2,h3,h4⟩:=hx
 simp only at h1 h2 h3 h4
 unfold g4q
 refine Ok.ite (fun c=>?_) fun c=>Ok.ret ⟨by show out.length≤64;omega,h4⟩
 have c:k≤8:=by simpa using c
 refine Ok.bind (Ok.foldI (all:=f.Consumers) (Q:=fun y:List GStep=>y.length≤out.length+8∧∀x∈y,Ok (F_n f s x) fun z=>b0x f z.1) (fun pre y=>y.length≤out.length+pre.length∧∀x∈y,Ok (F_n f s x) fun z=>b0x f z.1) f.Consumers [] 0 out rfl rfl ⟨by simp,h4⟩ (fun pre a r y hw hy=>?_) fun y hy=>⟨by omega,hy.2⟩) fun y hy=>Ok.chk (z8 (by simp only;omega) (by simp only;omega)) (Ok.ret ⟨⟨by show 1≤k+1;omega,by show k+1≤9;omega,by show (y.length:Int)≤8*(k+1 - 1);omega,hy.2⟩,by show (9 - (k+1)).toNat<(9 - k).toNat;omega⟩)
 have hp:pre.length<f.Consumers.length:=by rw [hw];simp
 unfold g5z
 refine Ok.bind (f2x h) fun b hb=>Ok.ite (fun c=>Ok.chk (a0p (by simp;omega)) (Ok.ret ⟨by simp;omega,fun x hx=>?_⟩)) fun _=>Ok.ret ⟨by simp;omega,hy.2⟩
 simp only [wL,xF] at hx
 rcases hx with hx|rfl
 ·exact hy.2 x hx
 ·exact hb c
theorem d6g {f:w9} (h:c61 f):Ok (f4w f) fun y=>b0x f y.1:=by
 unfold f4w
 rw [b7b h,xX]
 simp only [w4,vM]
 have l8:=h.2.2.1
 refine Ok.bind (Ok.foldI (all:=f.Consumers) (Q:=fun y:List a1b=>y.length=f.Consumers.length∧∀u∈y,u=⟨true,1,1⟩) (fun pre y=>y.length=pre.length∧∀u∈y,u=⟨true,1,1⟩) f.Consumers [] 0 [] rfl rfl ⟨rfl,by simp⟩ (fun pre a r y hw hy=>?_) fun y hy=>hy) fun y hy=>Ok.ret ⟨h,.inl rfl,.inl rfl,hy.1,fun k hk=>?_⟩
 ·have hp:pre.length<f.Consumers.length:=by rw [hw];simp
  unfold g4u
  refine Ok.chk (a0p (by simp;omega)) (Ok.ret ⟨by simp;omega,fun u hu=>?_⟩)
  simp only [wL,xF] at hu
  rcases hu with hu|rfl
  ·exact hy.2 u hu
  ·rfl
 ·have hm:y.getD k default∈y:=by
   have hk:k<y.length:=hk
   simp [zE,hk]
  show d67 _ 1 (y.getD k default)
  rw [hy.2 _ hm]
  exact ⟨.inl rfl,fun hu=>(by cases hu),fun _=>⟨.inl rfl,fun _=>rfl⟩⟩
theorem d9c {t:x8} {f:w9} (h:TOK t) (hf:c61 f):Ok (f4s t f) fun y=>b0x f y.1∧TOK y.2:=by
 unfold f4s
 refine Ok.bind (d6g hf) fun y hy=>Ok.bind (a0l h (by omega)) fun z hz=>Ok.bind (Ok.loop (Q:=fun r:Sum (o5×x8) (o5×x8)=>Sum.elim (fun u=>b0x f u.1∧TOK u.2) (fun u=>b0x f u.1∧TOK u.2) r) (fun x=>0≤x.1∧x.1≤16∧b0x f x.2.1∧TOK x.2.2) (fun x=>x.1.toNat) (fun x hx=>?_) _ ⟨hz.1,by show z.1≤16;omega,hy,hz.2.2⟩) fun r hr=>by cases r<;>exact Ok.ret hr
 obtain ⟨k,s,t⟩:=x
 obtain ⟨h1,h2,h3,h4⟩:=hx
 simp only at h1 h2 h3 h4
 unfold g4b
 refine Ok.ite (fun c=>?_) fun c=>Ok.ret ⟨h3,h4⟩
 have c:0<k:=by simpa using c
 refine Ok.bind (c9m h3) fun l hl=>Ok.ite (fun _=>Ok.ret ⟨h3,h4⟩) fun c1=>?_
 have c1:¬(l.length:Int)=0:=by simpa using c1
 refine Ok.bind (a0l h4 (by omega)) fun i hi=>Ok.chk (u6.2 ⟨hi.1,hi.2.1⟩) ?_
 have hm:l.getD i.1.toNat default∈l:=by
  have:i.1.toNat<l.length:=by have:=hi.1;have:=hi.2.1;omega
  simp [zE,this]
 refine Ok.bind (hl.2 _ hm) fun w hw=>Ok.chk (z8 (by simp only;omega) (by simp only;omega)) (Ok.ret ⟨⟨by show 0≤k - 1;omega,by show k - 1≤16;omega,hw,hi.2.2⟩,by show (k - 1).toNat<k.toNat;omega⟩)
theorem d3i {t:x8} (h:TOK t):Ok (f5m t 3) fun y=>c61 y.1∧TOK y.2:=by
 unfold f5m
 refine Ok.bind (a1u h (by omega) (by omega) (by omega)) fun a ha=>Ok.bind (a1u ha.2.2 (by omega) (by omega) (by omega)) fun b hb=>Ok.bind (Ok.loop (Q:=fun r:Int×List u7×x8=>c61 ⟨r.1,r.2.1⟩∧TOK r.2.2) (fun x=>0≤x.1∧(x.2.2.1.length:Int)+x.1≤3∧1≤(x.2.2.1.length:Int)+x.1∧x.2.1=a.1∧(∀c∈x.2.2.1,0≤c.Pool∧c.Pool≤7)∧TOK x.2.2.2) (fun x=>x.1.toNat) (fun x hx=>?_) _ ⟨by show 0≤b.1;omega,by show ((0:Nat):Int)+b.1≤3;omega,by show 1≤((0:Nat):Int)+b.1;omega,rfl,by simp,hb.2.2⟩) fun r hr=>Ok.ret hr
 obtain ⟨k,sl,out,t⟩:=x
 obtain ⟨h1,h2,h3,h4,h5,h6⟩:=hx
 simp only at h1 h2 h3 h4 h5 h6
 unfold g4c
 refine Ok.ite (fun c=>?_) fun c=>Ok.ret ⟨?_,h6⟩
 case refine_2 =>
  have c:¬0<k:=by simpa using c
  exact ⟨by show sl=1∨sl=2;omega,by show 1≤out.length;omega,by show out.length≤8;omega,h5⟩
 have c:0<k:=by simpa using c
 refine Ok.bind (a0l h6 (by omega)) fun p hp=>Ok.bind (a0l hp.2.2 (by omega)) fun q hq=>Ok.bind (a0l hq.2.2 (by omega)) fun r hr=>Ok.chk (a0p (by simp;omega)) (Ok.chk (z8 (by simp only;omega) (by simp only;omega)) (Ok.ret ⟨⟨by show 0≤k - 1;omega,by simp;omega,by simp;omega,h4,fun c hc=>?_,hr.2.2⟩,by show (k - 1).toNat<k.toNat;omega⟩))
 simp only [wL,xF] at hc
 rcases hc with hc|rfl
 ·exact h5 c hc
 ·exact ⟨hp.1,by show p.1≤7;have:=hp.2.1;omega⟩
theorem f0j {t:x8} (h:TOK t):Ok (f6c t 3) fun y=>c61 y.1∧TOK y.2:=by
 unfold f6c
 refine Ok.bind (d3i h) fun y hy=>Ok.bind (Ok.foldI (all:=y.1.Consumers) (Q:=fun l:List u7=>c61 ⟨y.1.Slots,l⟩) (fun pre l=>c61 ⟨y.1.Slots,l⟩∧l.length=y.1.Consumers.length) y.1.Consumers [] 0 _ rfl rfl ⟨hy.1,rfl⟩ (fun pre a r l hw hl=>?_) fun l hl=>hl.1) fun l hl=>Ok.ret ⟨hl,hy.2⟩
 obtain ⟨hf,hl⟩:=hl
 have hp:pre.length<l.length:=by rw [hl,hw];simp
 have hi:inb (pre.length:Int) l.length=true:=u6.2 ⟨by omega,by omega⟩
 have set1:∀c:u7,0≤c.Pool∧c.Pool≤7→c61 ⟨y.1.Slots,l.set pre.length c⟩∧(l.set pre.length c).length=y.1.Consumers.length:=fun c hc =>
  ⟨⟨hf.1,by simpa using hf.2.1,by simpa using hf.2.2.1,fun d hd=>by
   rcases List.mem_or_eq_of_mem_set hd with hd|rfl
   ·exact hf.2.2.2 d hd
   ·exact hc⟩,by simpa using hl⟩
 have hpl:0≤(l.getD pre.length default).Pool∧(l.getD pre.length default).Pool≤7:=hf.2.2.2 _ (by simp [zE,hp])
 unfold g6g
 simp only [xU,List.length_set]
 refine Ok.chk hi ?_
 rw [c0i hf,xX]
 refine Ok.ite (fun _=>Ok.chk hi (Ok.chk hi (Ok.ite (fun _=>Ok.chk hi (Ok.ret (set1 _ hpl))) fun _=>Ok.chk hi (Ok.ret (set1 _ hpl))))) fun _=>Ok.ret ⟨hf,hl⟩
theorem c3j {α:Type} {body:Int→α→Unit→Option (Fl Unit Int)} (p:α→Bool):∀(xs:List α) (k:Int),0≤k→(∀k a,a∈xs→body k a ()=some (bif p a then .ex k else .nx ())) →
  (xs.any p=false→forL body xs k ()=some (.nx ()))∧(xs.any p=true→∃i,0≤i∧forL body xs k ()=some (.ex i))
 | [],k,hk,h=>⟨fun _=>rfl,fun e=>by simp at e⟩
 | x::r,k,hk,h=>by
  simp only [forL,h k x (by simp),xX,List.any_cons]
  cases hp:p x with
  | true=>exact ⟨fun e=>by simp at e,fun _=>⟨k,hk,rfl⟩⟩
  | false =>
   simp only [vM,w5]
   exact c3j p r (k+1) (by omega) fun k a ha=>h k a (by simp [ha])
theorem a5x {α:Type} {body:Int→α→Unit→Option (Fl Unit Int)} (p:α→Bool) (xs:List α) (h:∀k a,a∈xs→body k a ()=some (bif p a then .ex k else .nx ())) :
  (((forL body xs 0 ()).bind fun o=>o.elim (fun _=>some (-1)) (fun r=>some r)).bind fun y:Int=>some (decide (0≤y)))=some (xs.any p):=by
 obtain ⟨h1,h2⟩:=c3j p xs 0 (vL 0) h
 cases he:xs.any p with
 | false=>rw [h1 he];rfl
 | true =>
  obtain ⟨i,hi,e⟩:=h2 he
  rw [e]
  simp only [xX,Fl.elim]
  rw [wT hi]
def b70 (c:o6):Prop:=(1≤c.Replicas.length∧c.Replicas.length≤5)∧(1≤c.Sets.length∧c.Sets.length≤121)∧c.Snapshots.length≤120∧(∀s∈c.Sets,0≤s∧s≤3) ∧
 (∀r∈c.Replicas,0≤r.Generation∧r.Generation≤(c.Sets.length:Int) - 1)∧∀g∈c.Snapshots,0≤g∧g≤(c.Sets.length:Int) - 1
theorem b3v (x a b:Int):F_5 x a b=some (decide (a≤x)&&decide (x≤b)):=rfl
theorem d7l (x a b:Int):e1b x a b=some (decide (a≤x)&&decide (x≤b)):=rfl
theorem b7a {c:o6} (h:b70 c):F_d c=some true:=by
 obtain ⟨h1,h2,h3,h4,h5,h6⟩:=h
 have e1:(decide ((1:Int)≤c.Replicas.length)&&decide ((c.Replicas.length:Int)≤5))=true:=b1b.2 (by omega)
 have e2:(decide ((1:Int)≤c.Sets.length)&&decide ((c.Sets.length:Int)≤121))=true:=b1b.2 (by omega)
 have e3:decide ((120:Int)<c.Snapshots.length)=false:=by simp;omega
 unfold F_d
 simp only [jn,grp,b3v,xX,e1,e2,e3,w4,vM,Bool.or_false,Fl.elim]
 rw [a1c (fun _=>(none:Option Bool)) c.Sets 0 fun k a ha=>?_]
 ·rw [a2l (p:=fun _=>True) (y:=true) fun _ _=>by simp,if_pos (fun _ _=>trivial),xX]
  simp only [flO]
  rw [a1c (fun _=>(none:Option Bool)) c.Replicas 0 fun k a ha=>?_]
  ·rw [a2l (p:=fun _=>True) (y:=true) fun _ _=>by simp,if_pos (fun _ _=>trivial),xX]
   simp only [flO]
   rw [a1c (fun _=>(none:Option Bool)) c.Snapshots 0 fun k a ha=>?_]
   ·rw [a2l (p:=fun _=>True) (y:=true) fun _ _=>by simp,if_pos (fun _ _=>trivial)];rfl
   ·unfold g5y
    rw [p8 (z8 (by omega) (by omega)),b3v,xX,b1b.2 (h6 a ha)];rfl
  ·unfold g6l
   rw [p8 (z8 (by omega) (by omega)),b3v,xX,b1b.2 (h5 a ha)];rfl
 ·unfold g6r
  rw [b3v,xX,b1b.2 (h4 a ha)];rfl
theorem a8o {α:Type} [Inhabited α] {l:List α} {i:Nat} (h:i<l.length):l.getD i default∈l:=by simp [zE,h]
theorem e0s {c:o6} {x:a0e} (h:b70 c):Ok (f6f c x) fun y=>y.2=0→b70 y.1:=by
 have h':=h
 obtain ⟨h1,h2,h3,h4,h5,h6⟩:=h
 unfold f6f
 rw [b7a h',xX]
 simp only [w4,vM]
 unfold f7x
 rw [p8 (a0p (by omega)),p8 (a0p (by omega)),p8 (a0p (by omega)),xX]
 simp only
 have err:∀{α β:Type} {e:Int} (he:e≠0) {P:α→Prop},Ok (some (Fl.ex (o6.mk false [] [] [],e):Fl α (o6×Int))) fun o=>o.elim P fun r=>r.2=0→b70 r.1:=fun {α β e} he {P}=>Ok.ret fun h0=>absurd h0 he
 refine Ok.jn (P:=fun o:Fl a0e (o6×Int)=>o.elim (fun _=>True) fun r=>r.2=0→b70 r.1) ?_ fun o ho=>?_
 ·refine Ok.ite (fun _=>?_) fun _=>?_
  ·refine Ok.ite (fun _=>err (β:=Unit) (by decide)) fun _=>?_
   rw [b3v,xX]
   refine Ok.ite (fun _=>err (β:=Unit) (by decide)) fun c1=>Ok.ite (fun _=>err (β:=Unit) (by decide)) fun c2=>Ok.chk (a0p (by simp;omega)) (Ok.ret fun _=>?_)
   have c1:0≤x.Bits∧x.Bits≤3:=b1b.1 (by simpa using c1)
   have c2:¬(120:Int)<c.Sets.length:=by simpa using c2
   refine ⟨h1,⟨by simp,by simp;omega⟩,h3,fun s hs=>?_,fun r hr=>?_,fun g hg=>?_⟩
   ·simp only [wL,xF] at hs
    rcases hs with hs|rfl
    ·exact h4 s hs
    ·exact c1
   ·have:=h5 r hr;simp;omega
   ·have:=h6 g hg;simp;omega
  ·refine Ok.jn (P:=fun _=>True) (Ok.ite (fun _=>Ok.ret trivial) fun _=>Ok.ret trivial) fun j _=>Ok.ite (fun _=>Ok.ret trivial) fun _=>Ok.ite (fun _=>Ok.ret trivial) fun _=>Ok.ret trivial
 ·cases o with
  | ex r=>exact Ok.ret ho
  | nx j =>
   simp only [Fl.elim]
   refine Ok.jn (P:=fun o:Fl Unit (o6×Int)=>o.elim (fun _=>(2≤x.Kind∧x.Kind≤4)∧(0≤x.Replica∧x.Replica≤(c.Replicas.length:Int) - 1)∧(x.Kind=4→0≤x.Snapshot∧x.Snapshot≤(c.Snapshots.length:Int) - 1)) fun r=>r.2=0→b70 r.1) ?_ fun o ho=>?_
   ·refine Ok.ite (fun _=>err (β:=Unit) (by decide)) fun _=>?_
    rw [b3v,xX]
    refine Ok.ite (fun _=>err (β:=Unit) (by decide)) fun c1=>Ok.chk (z8 (by omega) (by omega)) ?_
    have c1:2≤x.Kind∧x.Kind≤4:=b1b.1 (by simpa using c1)
    rw [b3v,xX]
    refine Ok.ite (fun _=>err (β:=Unit) (by decide)) fun c2=>?_
    have c2:=b1b.1 (by simpa using c2)
    refine Ok.ite (fun c3=>Ok.chk (z8 (by omega) (by omega)) ?_) fun c3=>Ok.ret ⟨c1,c2,fun e=>by rw [e] at c3;simp at c3⟩
    rw [b3v,xX]
    refine Ok.ite (fun _=>err (β:=Unit) (by decide)) fun c4=>Ok.ret ⟨c1,c2,fun _=>b1b.1 (by simpa using c4)⟩
   ·cases o with
    | ex r=>exact Ok.ret ho
    | nx u =>
     obtain ⟨k1,k2,k3⟩:=ho
     simp only
     have hr:x.Replica.toNat<c.Replicas.length:=by omega
     refine Ok.chk (u6.2 ⟨k2.1,by omega⟩) (Ok.jn (P:=fun o:Fl (Bool×List q9×List Int) (o6×Int)=>o.elim (fun j=>b70 ⟨j.1,c.Sets,j.2.1,j.2.2⟩) fun r=>r.2=0→b70 r.1) ?_ fun o ho=>by cases o with|nx j=>exact Ok.ret fun _=>ho|ex r=>exact Ok.ret ho)
     have setR:∀(b:Bool) (q:q9),0≤q.Generation∧q.Generation≤(c.Sets.length:Int) - 1→b70 ⟨b,c.Sets,c.Replicas.set x.Replica.toNat q,c.Snapshots⟩:=fun b q hq=>by
      refine ⟨by simpa using h1,h2,h3,h4,fun r hr=>?_,h6⟩
      rcases List.mem_or_eq_of_mem_set hr with hr|rfl
      ·exact h5 r hr
      ·exact hq
     refine Ok.ite (fun c1=>Ok.chk (z8 (by omega) (by omega)) (Ok.ret (setR _ _ ⟨by show (0:Int)≤(c.Sets.length:Int) - 1;omega,vL _⟩))) fun c1=>Ok.ite (fun c2=>?_) fun c2=>?_
     ·refine Ok.ite (fun _=>err (β:=Unit) (by decide)) fun c3=>Ok.chk (a0p (by simp;omega)) (Ok.ret ⟨h1,h2,?_,h4,h5,fun g hg=>?_⟩)
      ·have c3:¬(120:Int)≤c.Snapshots.length:=by simpa using c3
       simp;omega
      ·simp only [wL,xF] at hg
       rcases hg with hg|rfl
       ·exact h6 g hg
       ·exact h5 _ (a8o hr)
     ·have c1:¬x.Kind=2:=by simpa using c1
      have c2:¬x.Kind=3:=by simpa using c2
      have:=k3 (by omega)
      exact Ok.chk (u6.2 ⟨this.1,by omega⟩) (Ok.ret (setR _ _ (h6 _ (a8o (by omega)))))
theorem d3o {t:x8} {c:o6} (h:TOK t) (hc:b70 c):Ok (f3f t c) fun y=>TOK y.2:=by
 obtain ⟨h1,h2,h3,_⟩:=hc
 unfold f3f
 refine Ok.bind (a1u h (by omega) (by omega) (by omega)) fun y hy=>Ok.ite (fun _=>Ok.bind (b3x hy.2.2 (by simp)) fun z hz=>Ok.ret hz.2) fun _=>Ok.ite (fun _=>Ok.bind (a0l hy.2.2 (by omega)) fun z hz=>Ok.chk (z8 (by omega) (by omega)) (Ok.bind (a0l hz.2.2 (by omega)) fun w hw=>Ok.ret hw.2.2)) fun _=>Ok.bind (a0l hy.2.2 (by omega)) fun z hz=>Ok.ret hz.2.2
theorem c5h {t:x8} (h:TOK t):Ok (f5l t) fun y=>b70 y.1∧TOK y.2:=by
 unfold f5l
 refine Ok.bind (a1u h (by omega) (by omega) (by omega)) fun a ha=>Ok.bind (b3x ha.2.2 (by simp)) fun b hb=>Ok.bind (a0l hb.2 (by omega)) fun d hd=>Ok.bind (P:=fun y:o6×Int=>b70 y.1) ?_ fun y hy=>Ok.bind (a0l hd.2.2 (by omega)) fun e he=>Ok.bind (Ok.loop (Q:=fun r:o6×x8=>b70 r.1∧TOK r.2) (fun x=>0≤x.1∧x.1≤12∧b70 x.2.1∧TOK x.2.2) (fun x=>x.1.toNat) (fun x hx=>?_) _ ⟨he.1,by show e.1≤12;omega,hy,he.2.2⟩) fun r hr=>Ok.ret hr
 ·have hb0:0≤b.1∧b.1≤3:=by have:=hb.1;simp only [wY,List.not_mem_nil,or_false] at this;omega
  unfold f9m
  rw [b3v,xX,b1b.2 (by omega),b3v]
  simp only [w4,vM,xX]
  rw [b1b.2 hb0]
  simp only [w4,vM]
  refine Ok.bind (Ok.loop (Q:=fun r:Bool×List q9=>(r.2.length:Int)=a.1∧∀q∈r.2,q=⟨0,true⟩) (fun x=>x.1=x.2.2.length∧x.1≤a.1∧∀q∈x.2.2,q=⟨0,true⟩) (fun x=>(a.1 - x.1).toNat) (fun x hx=>?_) _ ⟨rfl,by show (0:Int)≤a.1;omega,by simp⟩) fun r hr=>Ok.ret ⟨⟨by show 1≤r.2.length;omega,by show r.2.length≤5;omega⟩,⟨by simp,by simp⟩,by simp,fun s hs=>(by simp only [xF] at hs;subst hs;exact hb0),fun q hq=>(by rw [hr.2 q hq];simp),by simp⟩
  obtain ⟨k,f,out⟩:=x
  obtain ⟨q1,q2,q3⟩:=hx
  simp only at q1 q2 q3
  unfold g4p
  refine Ok.ite (fun c=>?_) fun c=>Ok.ret ⟨?_,q3⟩
  ·have c:k<a.1:=by simpa using c
   refine Ok.chk (a0p (by simp;omega)) (Ok.chk (z8 (by simp only;omega) (by simp only;omega)) (Ok.ret ⟨⟨by simp;omega,by show k+1≤a.1;omega,fun q hq=>?_⟩,by show (a.1 - (k+1)).toNat<(a.1 - k).toNat;omega⟩))
   simp only [wL,xF] at hq
   exact hq.elim (q3 q) id
  ·have c:¬k<a.1:=by simpa using c
   show (out.length:Int)=a.1;omega
 ·obtain ⟨k,c,t⟩:=x
  obtain ⟨q1,q2,q3,q4⟩:=hx
  simp only at q1 q2 q3 q4
  unfold g4a
  refine Ok.ite (fun hk=>?_) fun _=>Ok.ret ⟨q3,q4⟩
  have hk:0<k:=by simpa using hk
  refine Ok.jn (P:=fun j:o6×x8=>b70 j.1∧TOK j.2) (Ok.bind (d3o q4 q3) fun y hy=>Ok.bind (e0s q3) fun z hz=>Ok.ite (fun c=>Ok.ret ⟨hz (by simpa using c),hy⟩) fun _=>Ok.ret ⟨q3,hy⟩) fun j hj=>Ok.chk (z8 (by simp only;omega) (by simp only;omega)) (Ok.ret ⟨⟨by show 0≤k - 1;omega,by show k - 1≤12;omega,hj⟩,by show (k - 1).toNat<k.toNat;omega⟩)
theorem c2z {c:o6} (h:b70 c):e2q c=some 0:=by
 obtain ⟨h1,h2,h3,h4,h5,h6⟩:=h
 have e1:(decide ((1:Int)≤c.Replicas.length)&&decide ((c.Replicas.length:Int)≤5))=true:=b1b.2 (by omega)
 have e2:(decide ((1:Int)≤c.Sets.length)&&decide ((c.Sets.length:Int)≤121))=true:=b1b.2 (by omega)
 have e3:decide ((120:Int)<c.Snapshots.length)=false:=by simp;omega
 have a1:e2u c.Sets=some false:=by
  unfold e2u f7q
  rw [a5x (fun _=>false) c.Sets fun k a ha=>?_]
  ·simp
  ·unfold g4g f7r
   rw [d7l,xX,b1b.2 (h4 a ha)];rfl
 have one:∀g,0≤g∧g≤(c.Sets.length:Int) - 1→e2t g c=some false:=fun g hg=>by
  unfold e2t
  rw [p8 (z8 (by omega) (by omega)),d7l,xX,b1b.2 hg];rfl
 have a2:e2s c.Snapshots c=some false:=by
  unfold e2s f9l
  rw [a5x (fun _=>false) c.Snapshots fun k a ha=>?_]
  ·simp
  ·unfold g4f
   rw [one a (h6 a ha)];rfl
 have a3:e2r c.Replicas c=some false:=by
  unfold e2r f9k
  rw [a5x (fun _=>false) c.Replicas fun k a ha=>?_]
  ·simp
  ·unfold g4e f7p
   rw [one a.Generation (h5 a ha)];rfl
 unfold e2q
 simp only [d7l,xX,e1,e2,e3,grp,w4,vM,Bool.or_false,a1,a2,a3]
def hasB (c:o6) (g bit:Int):Bool:=!decide (bits .and .i64 (c.Sets.getD g.toNat default) bit=0)
def c68 (c:o6) (bit:Int) (r:q9):Bool:=r.Serving&&hasB c r.Generation bit
def c9h (c:o6) (bit:Int):Bool:=!hasB c ((c.Sets.length:Int) - 1) bit&&!c.Replicas.any (c68 c bit)
theorem e9i {c:o6} {g:Int} (hg:0≤g∧g≤(c.Sets.length:Int) - 1) (bit:Int):e2p c g bit=some (hasB c g bit):=by
 unfold e2p
 rw [p8 (u6.2 ⟨hg.1,by omega⟩)];rfl
theorem d7m {c:o6} (h:b70 c) {bit:Int} (hb:bit=1∨bit=2):f3g c bit=some (c9h c bit):=by
 have hc:=c2z h
 obtain ⟨h1,h2,h3,h4,h5,h6⟩:=h
 have hs:f3h c bit=some (c.Replicas.any (c68 c bit)):=by
  unfold f3h f7l f9i
  rw [a5x (c68 c bit) c.Replicas fun k a ha=>?_]
  ·rfl
  ·unfold g4d f7m f7n
   rw [e9i (h5 a ha)]
   unfold c68
   cases a.Serving with
   | false=>rfl
   | true=>cases hasB c a.Generation bit<;>rfl
 unfold f3g f7o
 have e:(decide (bit=1)||decide (bit=2))=true:=by simpa using hb
 rw [hc,xX,e9i ⟨by omega,vL _⟩,hs]
 simp only [decide_true,vO,grp,e,xX,jn,p8 (z8 (n:=(c.Sets.length:Int) - 1) (by omega) (by omega))]
 unfold c9h
 cases hasB c ((c.Sets.length:Int) - 1) bit<;>rfl
theorem d1z {f:w9} (h:c61 f):f3l f=some 0:=by
 obtain ⟨h1,h2,h3,h4⟩:=h
 have a1:f3m f.Consumers=some false:=by
  unfold f3m f7s
  rw [a5x (fun _=>false) f.Consumers fun k a ha=>?_]
  ·simp
  ·unfold g4h f7t
   have:=h4 a ha
   have e:(decide (a.Pool<0)||decide (7<a.Pool))=false:=by simp;omega
   simp only [grp,e,xX];rfl
 unfold f3l
 have e1:(((!decide (f.Slots=1))&&(!decide (f.Slots=2))||decide ((f.Consumers.length:Int)<1))||decide ((8:Int)<f.Consumers.length))=false:=by simp;omega
 simp only [grp,e1,vM,a1,xX]
theorem b7k {dual:Bool} {kn x:Int} (hk:kn=1∨kn=3) (h:bOK dual kn x):d5s x kn dual=some true:=by
 unfold d5s
 have e1:(decide (0<x)&&decide (x≤3))=true:=by simp;rcases h with h|⟨_,h|⟨h,_⟩⟩<;>omega
 simp only [jn,grp,e1,vO,xX]
 rcases h with rfl|⟨hk,rfl|⟨rfl,hd⟩⟩
 ·rcases hk with hk|hk<;>rw [hk]
  ·rw [g2o];cases dual<;>rfl
  ·rw [g2n];cases dual<;>rfl
 ·rw [hk,g2m];cases dual<;>rfl
 ·rw [hk,g2l,hd];rfl
theorem d1s {c:u7} {u:a1b} {kn:Int} (hk:kn=1∨kn=3) (h:d67 c kn u):f3k c u kn=some true:=by
 obtain ⟨u1,u2,u3⟩:=h
 unfold f3k
 rw [b7k hk u1,xX]
 cases hup:u.Up with
 | false=>rw [u2 hup];rfl
 | true =>
  obtain ⟨u4,u5⟩:=u3 hup
  rw [b7k hk u4]
  simp only [w4,vM,xX,grp,Bool.true_and]
  cases hl:c.Live with
  | false=>rfl
  | true=>rw [u5 hl];simp
theorem c2y {f:w9} {s:o5} (h:b0x f s):e3m f s=some true:=by
 obtain ⟨hf,hk,hv,hl,hu⟩:=h
 unfold e3m
 have e1:((!decide (s.Known=1))&&(!decide (s.Known=3)))=false:=by rcases hk with hk|hk<;>rw [hk]<;>rfl
 have e2:d5s s.Valid s.Known (decide (f.Slots=2))=some true:=b7k hk (hv.imp id fun h=>⟨h.1,h.2.imp id fun h=>⟨h.1,wT h.2⟩⟩)
 have e4:(!decide ((s.Units.length:Int)=(f.Consumers.length:Int)))=false:=by rw [hl];simp
 rw [d1z hf,xX,e2]
 simp only [jn,grp,decide_true,w4,w5,e1,vM,xX,e4,Fl.elim]
 refine Ok.eq (Ok.bind (Ok.forI (all:=s.Units) (Q:=fun y=>y=Fl.nx ()) (fun _ _=>True) s.Units [] 0 () rfl rfl trivial (fun pre u q x hw _=>?_) fun _ _=>rfl) fun y hy=>by rw [hy];exact Ok.ret rfl)
 have hp:pre.length<s.Units.length:=by rw [hw];simp
 have hx:s.Units.getD pre.length default=u:=by rw [hw];simp
 have:=hu _ hp
 rw [hx] at this
 unfold g5v
 refine Ok.chk (u6.2 ⟨by omega,by omega⟩) ?_
 rw [xU,d1s hk this]
 exact Ok.ret trivial
def b8b (u:a1b):Bool:=(u.Up==true)&&(decide (u.Stored=2)&&decide (u.Used=2))
theorem d1y {f:w9} {s:o5} (h:b0x f s):f3i f s=some (decide (s.Valid=2)&&s.Units.all b8b):=by
 unfold f3i
 rw [c2y h,xX]
 have a1:f3j s.Units ⟨true,2,2⟩=some (s.Units.any fun u=>!b8b u):=by
  unfold f3j f9j
  rw [a5x (fun u=>!b8b u) s.Units fun k a ha=>?_]
  show (bif !b8b a then some (Fl.ex k) else some (Fl.nx ()))=_
  cases b8b a<;>rfl
 rw [a1]
 have e:s.Units.all b8b=!s.Units.any fun u=>!b8b u:=by
  generalize s.Units=l
  induction l with
  | nil=>rfl
  | cons a r ih=>simp only [List.all_cons,List.any_cons,ih];cases b8b a<;>rfl
 rw [e]
 simp only [grp,jn,Bool.true_and]
 cases decide (s.Valid=2)<;>rfl
theorem c7o {r:l7} {c:l9} (h:r.Issuers.length≤8):f8n r c=some (decide (d3y r.Issuers.length c)):=b69 r c h
theorem d23 {s:Str} (h:e2k s):a90 s 40=true:=by
 obtain ⟨h1,h2,h3⟩:=h
 unfold a90 letters
 simp only [wE,wD,xM]
 exact ⟨h3,by omega,by omega⟩
theorem d1x (r:l7) (i h t:Int) (hn:r.Credentials.length≤24):f5i r i h t=some (e9e r.Credentials i h t):=by
 unfold f5i
 rw [show (0:Int)=((0:Nat):Int) from rfl,a6d (hdB i h t) 24 (by omega) r.Credentials 0 [] (by simpa using hn) fun k a x ha hx=>?_]
 ·rfl
 ·unfold g5o f8l
  simp only [grp,hdB,jn,xX]
  cases (decide (a.Issuer=i)&&decide (a.Holder=h)) with
  | false=>rfl
  | true =>
   simp only [vO,xX,Bool.true_and]
   cases (decide (a.From≤t)&&decide (t<a.Until)) with
   | false=>rfl
   | true=>simp only [vO];rw [p8 (a0p (by simp;omega))]
theorem a8i {r:l7} (h:a4r r):F_w r=some 0:=by
 obtain ⟨h1,h2,h3,h4,h5⟩:=h
 have a1:f4b r.Issuers=some false:=by
  unfold f4b f8o
  rw [a5x (fun _=>false) r.Issuers fun k a ha=>?_]
  ·simp
  ·unfold g5q f8p b6h
   rw [d23 (h3 a ha).1,xX,d57,b1b.2 (h3 a ha).2];rfl
 have a2:f4a r.Credentials r=some false:=by
  unfold f4a f9o
  rw [a5x (fun _=>false) r.Credentials fun k a ha=>?_]
  ·simp
  ·unfold g5p f8m
   rw [c7o h1,xX,wT (h4 a ha)];rfl
 unfold F_w
 have e:(decide ((8:Int)<r.Issuers.length)||decide ((24:Int)<r.Credentials.length))=false:=by simp;omega
 simp only [grp,e,vM,a1,a2,xX]
 rw [a1c (fun _=>(none:Option Int)) r.Credentials 0 fun k a ha=>?_]
 ·rw [a2l (p:=fun _=>True) (y:=(0:Int)) fun _ _=>by simp,if_pos (fun _ _=>trivial)];rfl
 ·unfold g5n
  obtain ⟨q1,q2,_⟩:=h4 a ha
  have:=h5 a ha
  unfold crR at this
  rw [d1x r _ _ _ h2,xX,p8 (u6.2 ⟨q1,q2⟩),wG (by omega)];rfl
def finds (r:l7) (fp:Int):List Int:=b5j (fun c:l9=>decide (c.Fingerprint=fp)) 0 r.Credentials
theorem b3y {r:l7} (h:a4r r) (fp:Int):e1q r fp=some (finds r fp):=by
 unfold e1q
 rw [a8i h,xX]
 simp only [decide_true,w4,vM]
 rw [show (0:Int)=((0:Nat):Int) from rfl,a6d (fun c:l9=>decide (c.Fingerprint=fp)) 24 (by omega) r.Credentials 0 [] (by have:=h.2.1;simpa using this) fun k a x ha hx=>?_]
 ·rfl
 ·unfold g5j
  cases decide (a.Fingerprint=fp) with
  | false=>rfl
  | true=>simp only [vO];rw [p8 (a0p (by simp;omega))]
theorem b8w {r:l7} (h:a4r r) {fp i:Int} (hi:i∈finds r fp):0≤i∧i<24:=by
 obtain ⟨j,h1,h2,_⟩:=b7n.1 hi
 have:=h.2.1
 omega
def tl1 (s:o9) (x:a01):o9:=o9.mk s.Fingerprint s.Spots (s.Public||decide (x.Principal=-1)) (if x.Principal=-1 then s.Readers else s.Readers+1) (if s.Since=-1∨x.Time<s.Since then x.Time else s.Since) s.Severity s.Rotated s.Dead
theorem e4c {s:o9} {x:a01} (k:Int) (h:0≤s.Readers∧s.Readers≤1000):f4m k x s=some (tl1 s x):=by
 unfold f4m tl1
 by_cases c:x.Principal=-1
 ·simp only [c,decide_true,vO,jn,xX,Bool.or_true,if_true]
  by_cases c1:s.Since=-1
  ·simp [c1]
  ·by_cases c2:x.Time<s.Since
   ·simp [c1,c2]
   ·simp [c1,c2]
 ·simp only [c,decide_false,vM,jn,p8 (z8 (n:=s.Readers+1) (by omega) (by omega)),xX,Bool.or_false,if_false]
  by_cases c1:s.Since=-1
  ·simp [c1]
  ·by_cases c2:x.Time<s.Since
   ·simp [c1,c2]
   ·simp [c1,c2]
theorem c6h:∀(l:List a01) (k:Int) (s:o9),0≤s.Readers→s.Readers+l.length≤1000→foldL f4m l k s=some (l.foldl tl1 s)
 | [],k,s,h,h'=>rfl
 | x::r,k,s,h,h'=>by
  simp only [wA] at h'
  simp only [foldL,e4c k (show 0≤s.Readers∧s.Readers≤1000 by omega),xX,wO]
  refine c6h r (k+1) _ ?_ ?_
  ·show 0≤ite _ _ _;split<;>omega
  ·show ite _ _ _+(r.length:Int)≤1000;split<;>omega
def c7k (l:List a01):List a01:=l.filter fun x=>decide (x.Principal≠-1)
def c8d (l:List a01) (t:Int):Prop:=(l=[]∧t=-1)∨(∃x∈l,t=x.Time)∧∀x∈l,t≤x.Time
structure Tl (l:List a01) (m s:o9):Prop where
 fp:s.Fingerprint=m.Fingerprint
 sp:s.Spots=m.Spots
 sv:s.Severity=m.Severity
 ro:s.Rotated=m.Rotated
 de:s.Dead=m.Dead
 pu:s.Public=(m.Public||l.any fun x=>decide (x.Principal=-1))
 rd:s.Readers=m.Readers+(c7k l).length
 si:c8d l s.Since
theorem d6a {m s:o9} {l:List a01} {x:a01} (ih:Tl l m s) (hl:∀y∈l,0≤y.Time) (hx:0≤x.Time):Tl (l++[x]) m (tl1 s x):=by
 refine ⟨ih.fp,ih.sp,ih.sv,ih.ro,ih.de,?_,?_,?_⟩
 ·show (_||_)=_
  rw [ih.pu];simp [Bool.or_assoc]
 ·show ite _ _ _=_
  rw [ih.rd]
  by_cases c:x.Principal=-1
  ·rw [if_pos c];simp [c7k,c]
  ·rw [if_neg c];simp [c7k,c];omega
 ·show c8d _ (ite _ _ _)
  right
  rcases ih.si with ⟨e,e1⟩|⟨⟨y,hy,e⟩,h2⟩
  ·subst e
   rw [if_pos (.inl e1)]
   exact ⟨⟨x,by simp,rfl⟩,by simp⟩
  ·have hy0:=hl y hy
   by_cases c:s.Since=-1∨x.Time<s.Since
   ·rw [if_pos c]
    refine ⟨⟨x,by simp,rfl⟩,fun z hz=>?_⟩
    simp only [wL,xF] at hz
    rcases hz with hz|rfl
    ·have:=h2 z hz;omega
    ·exact vL _
   ·rw [if_neg c]
    refine ⟨⟨y,by simp [hy],e⟩,fun z hz=>?_⟩
    simp only [wL,xF] at hz
    rcases hz with hz|rfl
    ·exact h2 z hz
    ·omega
theorem e4a {m:o9}:∀(l pre:List a01) (s:o9),Tl pre m s→(∀y∈pre,0≤y.Time)→(∀y∈l,0≤y.Time)→Tl (pre++l) m (l.foldl tl1 s)
 | [],pre,s,h,_,_=>by simpa using h
 | x::r,pre,s,h,hp,hl=>by
  rw [wO]
  have:=e4a r (pre++[x]) _ (d6a h hp (hl x (by simp))) (fun y hy=>by
   simp only [wL,xF] at hy
   rcases hy with hy|rfl
   ·exact hp y hy
   ·exact hl y (by simp)) fun y hy=>hl y (by simp [hy])
  simpa using this
theorem d0v {m:o9} (hm:m.Since=-1) (l:List a01) (h:∀x∈l,0≤x.Time):Tl l m (l.foldl tl1 m):=by
 have:=e4a l [] m ⟨rfl,rfl,rfl,rfl,rfl,by simp,by simp [c7k],.inl ⟨rfl,hm⟩⟩ (by simp) h
 simpa using this
theorem c6t {d:d9} {a:l5} (g:a2t d) (h:Good a) {c p t:Int} (hs:sin d a c p=some t):0≤t∧t≤1099511627776:=by
 rcases c1h.1 (List.mem_of_find?_eq_some hs) with ⟨x,hx,rfl⟩|⟨x,hx,rfl⟩
 ·exact ⟨(h.ev x hx).1,(h.ev x hx).2.1⟩
 ·exact ⟨(g.ev x hx).2.1,(g.ev x hx).2.2.1⟩
theorem b9l {d:d9} {a:l5} (g:a2t d) (h:Good a) {c:Int}:∀x∈b5s d a c,0≤x.Time∧x.Time≤1099511627776:=fun x hx=>c6t g h (b7o.1 hx).2
theorem c2v (l:List a01):(c7k l).length≤l.length:=List.length_filter_le _ _
theorem d6b {d:d9} {a:l5} (g:a2t d) (h:Good a) {c:Int} (h0:0≤c) (h1:c≤63) (m:o9) (hm:m.Readers=0) :
  Ok (f5v m d a c) fun y=>y.1=0∧Tl (b5s d a c) (o9.mk m.Fingerprint m.Spots m.Public m.Readers (-1) m.Severity m.Rotated m.Dead) y.2:=by
 unfold f5v
 rw [f6h g h h0 h1,xX]
 simp only [decide_true,w4,vM]
 have hl:=a8q d a c (d.Kinds.length+1) (-1)
 have:=g.kl
 rw [c6h (b5s d a c) 0 _ (by show 0≤m.Readers;omega) (by show m.Readers+((b5s d a c).length:Int)≤1000;unfold b5s;omega),xX]
 exact Ok.ret ⟨rfl,d0v rfl _ fun x hx=>(b9l g h x hx).1⟩
noncomputable def sev (x:o8) (w:List Int) (n:Int) (pub:Bool) (k:Int):a00:=⟨lvl (b23 w x k w.length*aud n pub),b23 w x k w.length,aud n pub,b23 w x k w.length*aud n pub⟩
def e4o (m:o9) (v:a00):o9:=o9.mk m.Fingerprint m.Spots m.Public m.Readers m.Since v m.Rotated m.Dead
def c6a (f:Int→a00) (l:List Int) (v0 v:a00):Prop:=(l=[]∧v=v0)∨(∃k∈l,v=f k)∧∀k∈l,(f k).Score≤v.Score
theorem d1o {m:o9} {r:l7} {x:o8} {w:List Int} (hr:a4r r) (g:a3q x) (hw:wOK w) (hl:(w.length:Int)=x.Resources) (hn:0≤m.Readers∧m.Readers≤24) :
  Ok (d60 m r x w) fun y=>((∃k∈finds r m.Fingerprint,x.Credentials≤k)∧y.1=2)∨(∀k∈finds r m.Fingerprint,k<x.Credentials)∧y.1=0∧∃v,y.2=e4o m v∧c6a (sev x w m.Readers m.Public) (finds r m.Fingerprint) m.Severity v:=by
 unfold d60
 have e1:f3z w=some false:=by
  unfold f3z f8d
  rw [a5x (fun _=>false) w fun k a ha=>?_]
  ·simp
  ·unfold g5i f8e
   have:=hw a ha
   have e:(decide (a<0)||decide (100<a))=false:=by simp;omega
   simp only [grp,e,xX];rfl
 have e2:f3y (finds r m.Fingerprint) x=some ((finds r m.Fingerprint).any fun k=>decide (x.Credentials≤k)):=by
  unfold f3y f9n
  rw [a5x (fun k=>decide (x.Credentials≤k)) _ fun k a ha=>?_]
  show (bif decide (x.Credentials≤a) then some (Fl.ex k) else some (Fl.nx ()))=_
  cases decide (x.Credentials≤a)<;>rfl
 rw [a8i hr,xX,a9y,if_pos g]
 simp only [decide_true,w4,vM,xX]
 rw [b3y hr,xX,wT hl,e1]
 simp only [w4,vM,xX]
 rw [e2,xX]
 refine Ok.ite (fun c=>Ok.ret (.inl ⟨by simpa using c,rfl⟩)) fun c=>?_
 have c:∀k∈finds r m.Fingerprint,k<x.Credentials:=by simpa using c
 generalize hF:finds r m.Fingerprint=L at *
 have hL:∀k∈L,0≤k∧k<24:=fun k hk=>b8w hr (hF▸hk)
 have hlen:L.length≤24:=by rw [←hF];have:=b7r (fun c:l9=>decide (c.Fingerprint=m.Fingerprint)) r.Credentials 0;have:=hr.2.1;unfold finds;omega
 obtain ⟨f,hf⟩:∃f,f=sev x w m.Readers m.Public:=⟨_,rfl⟩
 refine Ok.bind (Ok.forI (all:=L) (Q:=fun o:Fl (List a00) (Int×o9)=>o=.nx (L.map f)) (fun pre y=>y=pre.map f) L [] 0 [] rfl rfl rfl (fun pre k q y hw' hy=>?_) fun y hy=>by rw [hy]) fun o ho=>?_
 ·have hk:k∈L:=by rw [hw'];simp
  have hp:pre.length<L.length:=by rw [hw'];simp
  unfold g58
  rw [d7f g hw hl ⟨(hL k hk).1,by have:=c k hk;omega⟩ hn,xX]
  simp only [decide_true,w4,vM]
  refine Ok.chk (a0p (by rw [hy];simp;omega)) (Ok.ret ?_)
  show _=_
  rw [hy,List.map_append,hf];rfl
 ·rw [ho]
  simp only [Fl.elim]
  obtain ⟨z,e,z1,z2⟩:=d0r (L.map f) (by simp;omega)
  rw [e,xX]
  by_cases h0:L=[]
  ·subst h0
   have:z.2=false:=by rw [z1];rfl
   rw [this]
   exact Ok.ret (.inr ⟨by simp,rfl,m.Severity,rfl,.inl ⟨rfl,rfl⟩⟩)
  ·have hpos:0<L.length:=List.length_pos_iff.2 h0
   have:z.2=true:=by rw [z1];exact wT (by simp;omega)
   rw [this]
   obtain ⟨q1,q2,q3,_⟩:=z2 (by simpa using hpos)
   have hi:z.1.toNat<L.length:=by simp at q2;omega
   simp only [vO]
   refine Ok.chk (u6.2 ⟨q1,q2⟩) (Ok.ret (.inr ⟨c,rfl,(L.map f).getD z.1.toNat default,rfl,.inr ⟨⟨L.getD z.1.toNat default,a8o hi,?_⟩,fun k hk=>?_⟩⟩))
   ·rw [←hf];simp [zE,hi]
   ·obtain ⟨i,hi',rfl⟩:=z7.1 hk
    have:=q3 i (by simpa using hi')
    rw [←hf]
    simpa [zE,hi'] using this
structure Scn (z:b2u):Prop where
 d:a2t z.d_
 dk:z.d_.Kinds.length≤7
 dk1:1≤z.d_.Kinds.length
 a:Good z.a_
 r:a4r z.r_
 x:a3q z.x_
 w:wOK z.w_
 wl:(z.w_.length:Int)=z.x_.Resources
 f0:0≤z.f_.Fingerprint
 f1:z.f_.Fingerprint≤18446744073709551615
 fw:z.f_.Where.length≤1000
 c0:0≤z.c_
 c1:z.c_≤63
 s:b0x z.jL z.s_
 g:b70 z.qK
structure d4o (z:b2u) (m:o9):Prop where
 fp:m.Fingerprint=z.f_.Fingerprint
 sp:m.Spots=z.f_.Where.length
 pu:m.Public=(b5s z.d_ z.a_ z.c_).any fun x=>decide (x.Principal=-1)
 rd:m.Readers=(c7k (b5s z.d_ z.a_ z.c_)).length
 si:c8d (b5s z.d_ z.a_ z.c_) m.Since
 sv:c6a (sev z.x_ z.w_ m.Readers m.Public) (finds z.r_ z.f_.Fingerprint) ⟨0,0,0,0⟩ m.Severity
 ro:m.Rotated=(decide (z.s_.Valid=2)&&z.s_.Units.all b8b)
 de:m.Dead=c9h z.qK 1
theorem d49 {z:b2u} (h:Scn z):Ok (g3o z) fun y=>((∃k∈finds z.r_ z.f_.Fingerprint,z.x_.Credentials≤k)∧y=(zS,2))∨(∀k∈finds z.r_ z.f_.Fingerprint,k<z.x_.Credentials)∧y.2=0∧d4o z y.1:=by
 unfold g3o d0n
 obtain ⟨y,e,y1,y2⟩:=d6b h.d h.a h.c0 h.c1 (o9.mk z.f_.Fingerprint (z.f_.Where.length:Int) false 0 0 (a00.mk 0 0 0 0) false false) rfl
 rw [e,xX,y1]
 simp only [decide_true,w4,vM]
 have hrd:=c2v (b5s z.d_ z.a_ z.c_)
 have hel:=a8q z.d_ z.a_ z.c_ (z.d_.Kinds.length+1) (-1)
 have hdk:=h.dk
 have q1:=y2.rd
 have q2:=y2.fp
 simp only [Int.zero_add] at q1 q2
 obtain ⟨v,e2,v1⟩:=d1o (m:=y.2) h.r h.x h.w h.wl (by unfold b5s at q1 hrd;omega)
 rw [e2,xX]
 rcases v1 with ⟨v1,v2⟩|⟨v1,v2,u,v3,v4⟩
 ·rw [v2]
  rw [q2] at v1
  exact Ok.ret (.inl ⟨v1,rfl⟩)
 ·rw [v2]
  simp only [decide_true,w4,vM]
  rw [c2y h.s,xX]
  simp only [w4,vM]
  rw [c2z h.g,xX]
  simp only [decide_true,w4,vM]
  rw [d1y h.s,xX,d7m h.g (.inl rfl),xX,xX]
  rw [q2] at v1 v4
  refine Ok.ret (.inr ⟨v1,rfl,?_⟩)
  rw [v3]
  refine ⟨y2.fp,y2.sp,?_,q1,y2.si,?_,rfl,rfl⟩
  ·have:=y2.pu;show y.2.Public=_;simpa using this
  ·have e5:=y2.sv;simp only at e5;rw [e5] at v4;exact v4
theorem wrap_u64 {n:Int} (h0:0≤n) (h1:n≤1000000):IntKind.wrap .u64 n=n:=IntWalk.u64_in n ⟨h0,by omega⟩
theorem e0k {n:Int} (h0:0≤n) (h1:n≤24) (p:Bool):0≤aud n p∧aud n p≤100:=by
 unfold aud;cases p<;>simp<;>omega
theorem d6j {x:o8} {w:List Int} (g:a3q x) (hw:wOK w) (hl:(w.length:Int)=x.Resources) {n:Int} (h0:0≤n) (h1:n≤24) (p:Bool) (k:Int) :
  0≤(sev x w n p k).Score∧(sev x w n p k).Score≤1000000∧0≤(sev x w n p k).Worth∧(sev x w n p k).Worth≤7200∧0≤(sev x w n p k).Audience∧(sev x w n p k).Audience≤100∧0≤(sev x w n p k).Level∧(sev x w n p k).Level≤4:=by
 have hr:=a6c g hw k w.length (vJ _)
 have ha:=e0k h0 h1 p
 have hR:=g.r1
 have hW:b23 w x k w.length≤7200:=by omega
 have hm:b23 w x k w.length*aud n p≤7200*100:=Int.mul_le_mul hW ha.2 ha.1 (by omega)
 have hm0:0≤b23 w x k w.length*aud n p:=Int.mul_nonneg hr.1 ha.1
 have hl:=e8x (b23 w x k w.length*aud n p)
 exact ⟨hm0,by show b23 w x k w.length*aud n p≤1000000;omega,hr.1,hW,ha.1,ha.2,hl.1,hl.2⟩
theorem e5e {z:b2u} (h:Scn z) {m:o9} (t:d4o z m):0≤m.Readers∧m.Readers≤24:=by
 have hrd:=c2v (b5s z.d_ z.a_ z.c_)
 have hel:=a8q z.d_ z.a_ z.c_ (z.d_.Kinds.length+1) (-1)
 have hdk:=h.dk
 have:=t.rd
 unfold b5s at this hrd
 omega
theorem d0w {z:b2u} (h:Scn z) {m:o9} (t:d4o z m):SV m:=by
 have hr:=e5e h t
 have hfw:=h.fw
 have hs:0≤m.Severity.Score∧m.Severity.Score≤1000000∧0≤m.Severity.Worth∧m.Severity.Worth≤7200∧0≤m.Severity.Audience∧m.Severity.Audience≤100∧0≤m.Severity.Level∧m.Severity.Level≤4:=by
  rcases t.sv with ⟨_,e⟩|⟨⟨k,_,e⟩,_⟩
  ·rw [e];decide
  ·rw [e];exact d6j h.x h.w h.wl hr.1 hr.2 _ k
 have hsi:-1≤m.Since∧m.Since≤1099511627776:=by
  rcases t.si with ⟨_,e⟩|⟨⟨x,hx,e⟩,_⟩
  ·omega
  ·have:=b9l h.d h.a x hx;omega
 have hsp:=t.sp
 exact ⟨by rw [t.fp];exact h.f0,by rw [t.fp];exact h.f1,z8 (by omega) (by omega),z8 (by omega) (by omega),z8 (by omega) (by omega),z8 (by omega) (by omega),z8 (by omega) (by omega),z8 (by omega) (by omega),z8 (by omega) (by omega)⟩
end Go.Ab