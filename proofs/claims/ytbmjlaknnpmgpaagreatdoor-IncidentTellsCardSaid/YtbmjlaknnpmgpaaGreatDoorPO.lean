/- Numbers and words of a line (for chapter 43). -/
import Derived.Test.YtbmjlaknnpmgpaaGreatDoorAbMach
import Derived.Lib.Join
import Derived.Test.YtbmjlaknnpmgpaaGreatDoorLT
import Derived.Test.YtbmjlaknnpmgpaaGreatDoorPA
set_option linter.all false
set_option linter.all false
namespace Go.Ab
open Go.Proofs
theorem a6c (u:Nat):∀c∈Lib.decDigits u,48≤c.toNat∧c.toNat≤57:=by
 induction u using Nat.strongRecOn with
 | _ u ih =>
  intro c hc
  rw [Lib.decDigits] at hc
  split at hc
  ·rename_i h
   simp at hc;subst hc
   simp;omega
  ·rcases wM.1 hc with hc|hc
   ·exact ih (u / 10) (by omega) c hc
   ·simp at hc;subst hc
    simp;omega
theorem c5i (u:Nat) (h:u≤18446744073709551615) (l:Str):Lib.parseUint10 0 (Lib.decDigits u++l)=Lib.parseUint10 u l:=by
 induction u using Nat.strongRecOn generalizing l with
 | _ u ih =>
  rw [Lib.decDigits]
  split
  ·rename_i hu
   have e:(UInt8.ofNat (48+u)).toNat=48+u:=by simp;omega
   simp only [wD,wK,Lib.parseUint10,e]
   rw [if_pos (by omega),if_neg (by omega),if_neg (by omega)]
   congr 1;omega
  ·rename_i hu
   rw [List.append_assoc,ih (u / 10) (by omega) (by omega)]
   have e:(UInt8.ofNat (48+u % 10)).toNat=48+u % 10:=by simp;omega
   simp only [wD,wK,Lib.parseUint10,e]
   rw [if_pos (by omega),if_neg (by omega),if_neg (by omega)]
   congr 1;omega
theorem d3b (u:Nat):Lib.decDigits u≠[]:=by rw [Lib.decDigits];split<;>simp
theorem b8s (u:Nat) (h:u≤18446744073709551615):Lib.parseMag (Lib.decDigits u)=.ok u:=by
 have hp:=c5i u h []
 rw [wR] at hp
 unfold Lib.parseMag
 rw [if_neg (d3b u),hp];rfl
theorem c74 {u:Nat} (hu:u<18446744073709551616):(Lib.decDigits u).length≤20:=by
 rw [Lib.decDigits_length]
 by_cases h:1≤u
 ·have:=Lib.numDigits_eq u h hu;split at this<;>omega
 ·obtain rfl:u=0:=by omega
  exact zQ (by kernel_rfl)
theorem b7g {n:Int} (h0:-9223372036854775808≤n) (h1:n≤9223372036854775807):a4i (Lib.itoa n)=some (n,true):=by
 have key:Lib.atoiAll (Lib.itoa n)=.ok n∧(Lib.itoa n).length≤21:=by
  refine ⟨?_,Lib.itoa_length_le n h0 h1⟩
  by_cases c:0≤n
  ·obtain ⟨u,rfl⟩:=Int.eq_ofNat_of_zero_le c
   rw [Lib.itoa_nonneg]
   have hb:=a6c u
   cases hd:Lib.decDigits u with
   | nil=>exact absurd hd (d3b u)
   | cons c r =>
    have h1:=hb c (by rw [hd];simp)
    rw [Lib.atoiAll_plain c r (by omega) (by omega),←hd,b8s u (by omega)]
    simp only [Lib.signless]
    rw [if_neg (by omega)]
  ·obtain ⟨u,hu⟩:∃u:Nat,n=-(u:Int):=⟨(-n).toNat,by omega⟩
   subst hu
   rw [Lib.itoa_neg u (by omega),Lib.atoiAll_minus,b8s u (by omega)]
   simp only [Lib.signed]
   rw [if_neg (by omega)]
 refine Ok.eq (Ok.chk (wU (by omega)) (Ok.ret ?_))
 unfold a1a a1i
 rw [key.1]
theorem a7u (sep a:Str) (l:List Str):Lib.joinTail sep (a::l)=sep++a++Lib.joinTail sep l:=by simp [Lib.joinTail]
theorem b9o {b:UInt8}:∀(l:List Str) (a:Str),(∀w∈a::l,∀c∈w,c≠b)→spl b (Lib.join (a::l) [b])=a::l
 | [],a,h=>by
  rw [Lib.join_cons]
  simpa [Lib.joinTail] using b0h (h a (by simp))
 | x::l,a,h=>by
  have ih:=b9o (b:=b) l x fun w hw=>h w (xB _ hw)
  rw [Lib.join_cons] at ih
  rw [Lib.join_cons,a7u]
  have e:a++([b]++x++Lib.joinTail [b] l)=a++b::(x++Lib.joinTail [b] l):=by simp
  rw [e,b86 _ (h a (by simp)),ih]
end Go.Ab
set_option maxRecDepth 20000
namespace Go.Ab
open Go.Proofs
structure SV (m:o6):Prop where
 f0:0≤m.Fingerprint
 f1:m.Fingerprint≤18446744073709551615
 a:a0l m.Spots=true
 b:a0l m.Readers=true
 c:a0l m.Since=true
 d:a0l m.Severity.Level=true
 e:a0l m.Severity.Worth=true
 f:a0l m.Severity.Audience=true
 g:a0l m.Severity.Score=true
def ch (b:Bool) (y n:Str):Str:=bif b then y else n
abbrev d2n:Str:=[112,117,98,108,105,99]
abbrev e0a:Str:=[105,110,115,105,100,101]
abbrev d3r:Str:=[114,111,116,97,116,101,100]
abbrev f0i:Str:=[118,97,108,105,100]
abbrev b7y:Str:=[100,101,97,100]
abbrev f0j:Str:=[97,108,105,118,101]
def wds (m:o6):List Str:=[[108,101,97,107],Lib.decDigits m.Fingerprint.toNat,[115,112,111,116,115],Lib.itoa m.Spots,ch m.Public d2n e0a,
 [114,101,97,100,101,114,115],Lib.itoa m.Readers,[115,105,110,99,101],Lib.itoa m.Since,[108,101,118,101,108],Lib.itoa m.Severity.Level,[119,111,114,116,104],Lib.itoa m.Severity.Worth,
 [97,117,100,105,101,110,99,101],Lib.itoa m.Severity.Audience,[115,99,111,114,101],Lib.itoa m.Severity.Score,ch m.Rotated d3r f0i,ch m.Dead b7y f0j]
def ltx (m:o6):Str:=Lib.join (wds m) [32]
theorem b2p (b:Bool) (y n:Str):d9r b y n=some (ch b y n):=by cases b<;>rfl
theorem e6h {n:Int} (h0:0≤n) (h1:n≤18446744073709551615):d9a n 10=some (Lib.decDigits n.toNat):=by
 unfold d9a
 exact o9 (by simp;omega)
theorem c67 {n:Int} (h:a0l n=true):b8v n=some (Lib.itoa n):=o9 h
theorem a4o {n:Int} (h:a0l n=true):(Lib.itoa n).length≤21:=Lib.itoa_length_le n (a1p.1 h).1 (a1p.1 h).2
theorem c7h {b:Bool} {y n:Str} (h1:y.length≤7) (h2:n.length≤7):(ch b y n).length≤7:=by cases b<;>assumption
theorem b6l (sep:Str):Lib.joinTail sep []=[]:=rfl
theorem c0o {n:Nat}:∀(l:List Str) (a:Str),(∀w∈a::l,w.length≤n)→(Lib.join (a::l) [32]).length≤(n+1)*(l.length+1)
 | [],a,h=>by
  have:=h a (by simp)
  rw [Lib.join_cons,b6l];simp;omega
 | x::l,a,h=>by
  have ih:=c0o l x fun w hw=>h w (xB _ hw)
  have:=h a (by simp)
  rw [Lib.join_cons] at ih
  rw [Lib.join_cons,a7u,xI,xI,xI,show (x::l).length+1=(l.length+1)+1 from rfl,Nat.mul_add (n+1) (l.length+1) 1]
  rw [xI] at ih
  simp only [wB,wN]
  omega
theorem d3q {m:o6} (h:SV m):∀w∈wds m,w.length≤21:=by
 have d:=c74 (u:=m.Fingerprint.toNat) (by have:=h.f1;omega)
 have a1:=a4o h.a;have a2:=a4o h.b;have a3:=a4o h.c;have a4:=a4o h.d;have a5:=a4o h.e;have a6:=a4o h.f;have a7:=a4o h.g
 have c1:=c7h (b:=m.Public) (y:=d2n) (n:=e0a) (by decide) (by decide)
 have c2:=c7h (b:=m.Rotated) (y:=d3r) (n:=f0i) (by decide) (by decide)
 have c3:=c7h (b:=m.Dead) (y:=b7y) (n:=f0j) (by decide) (by decide)
 have lit:∀{l:Str},l.length≤8→l.length≤21:=fun h=>vC h (by decide)
 unfold wds
 simp only [List.forall_mem_cons]
 exact ⟨lit (by decide),vC d (by decide),lit (by decide),a1,vC c1 (by decide),lit (by decide),a2,lit (by decide),a3,lit (by decide),a4,lit (by decide),a5,lit (by decide),a6,lit (by decide),a7,vC c2 (by decide),vC c3 (by decide),fun _ h=>by cases h⟩
theorem d6o {m:o6} (h:SV m):(ltx m).length≤418:=c0o (n:=21) _ _ (d3q h)
theorem d2t {n:Nat} (h:n≤100):room n 16=true:=a5u.2 (by omega)
theorem d2o {m:o6} (h:SV m):F_9 m=some (ltx m):=by
 have hl:=d6o h
 have ej:d0r (wds m) [32]=some (ltx m):=by
  unfold d0r c66
  exact o9 (by simp only [wF,xN];exact ⟨by simp [wds],by show (ltx m).length≤_;omega⟩)
 refine Ok.eq ?_
 unfold F_9
 refine Ok.bind (Ok.of (e6h h.f0 h.f1) rfl) fun y e=>?_
 subst e
 refine Ok.bind (Ok.of (c67 h.a) rfl) fun y e=>?_
 subst e
 refine Ok.bind (Ok.of (b2p _ _ _) rfl) fun y e=>?_
 subst e
 have L:∀(k:Int) (a:a3w) (x:List Str),a0l a.n_=true→x.length≤40→f3e k a x=some (x++[a.name_,Lib.itoa a.n_]):=fun k a x h1 h2=>by
  unfold f3e
  rw [c67 h1,xY,o9 (d2t (by simp;omega))]
 have hb:=h.b;have hc:=h.c;have hd:=h.d;have he:=h.e;have hf:=h.f;have hg:=h.g
 refine Ok.bind (P:=fun x=>x=[[108,101,97,107],Lib.decDigits m.Fingerprint.toNat,[115,112,111,116,115],Lib.itoa m.Spots,ch m.Public d2n e0a,
  [114,101,97,100,101,114,115],Lib.itoa m.Readers,[115,105,110,99,101],Lib.itoa m.Since,[108,101,118,101,108],Lib.itoa m.Severity.Level,[119,111,114,116,104],Lib.itoa m.Severity.Worth,
  [97,117,100,105,101,110,99,101],Lib.itoa m.Severity.Audience,[115,99,111,114,101],Lib.itoa m.Severity.Score]) ?_ fun y e=>?_
 ·simp only [a09]
  rw [L _ _ _ hb (by simp)];simp only [xY]
  rw [L _ _ _ hc (by simp)];simp only [xY]
  rw [L _ _ _ hd (by simp)];simp only [xY]
  rw [L _ _ _ he (by simp)];simp only [xY]
  rw [L _ _ _ hf (by simp)];simp only [xY]
  rw [L _ _ _ hg (by simp)];simp only [xY]
  exact Ok.ret rfl
 ·subst e
  refine Ok.bind (Ok.of (b2p _ _ _) rfl) fun y e=>?_
  subst e
  refine Ok.bind (Ok.of (b2p _ _ _) rfl) fun y e=>?_
  subst e
  refine Ok.chk (d2t (by simp)) (Ok.bind (Ok.of ej rfl) fun y e=>Ok.ret e.symm)
end Go.Ab
set_option maxRecDepth 20000
namespace Go.Ab
open Go.Proofs
theorem c2p {n:Int}:∀c∈Lib.itoa n,c=45∨(48≤c.toNat∧c.toNat≤57):=by
 by_cases h:0≤n
 ·obtain ⟨u,rfl⟩:=Int.eq_ofNat_of_zero_le h
  rw [Lib.itoa_nonneg]
  exact fun c hc=>.inr (a6c u c hc)
 ·obtain ⟨u,hu⟩:∃u:Nat,n=-(u:Int):=⟨(-n).toNat,by omega⟩
  subst hu
  rw [Lib.itoa_neg u (by omega)]
  intro c hc
  rcases wZ.1 hc with rfl|hc
  ·exact .inl rfl
  ·exact .inr (a6c u c hc)
theorem e6n {u:Nat}:∀c∈Lib.decDigits u,c≠32:=fun c hc e=>by
 subst e;have:=a6c u _ hc;simp at this
theorem a6v {n:Int}:∀c∈Lib.itoa n,c≠32:=fun c hc e=>by
 subst e;rcases c2p _ hc with h|h
 ·cases h
 ·simp at h
theorem d7p {b:Bool} {y n:Str} (h1:∀c∈y,c≠32) (h2:∀c∈n,c≠32):∀c∈ch b y n,c≠32:=by cases b<;>assumption
def NS (l:Str):Prop:=∀c∈l,c≠32
theorem e09 (m:o6):∀w∈wds m,∀c∈w,c≠32:=by
 have lit:∀{l:Str},(l.all fun c=>c != 32)=true→∀c∈l,c≠32:=fun h c hc=>by
  have:=wE.1 h c hc
  simpa using this
 show ∀w∈wds m,NS w
 unfold wds
 simp only [List.forall_mem_cons]
 exact ⟨lit (by decide),e6n,lit (by decide),a6v,d7p (lit (by decide)) (lit (by decide)),lit (by decide),a6v,lit (by decide),a6v,lit (by decide),a6v,lit (by decide),a6v,lit (by decide),a6v,lit (by decide),a6v,
  d7p (lit (by decide)) (lit (by decide)),d7p (lit (by decide)) (lit (by decide)),fun _ h=>by cases h⟩
theorem b84 (m:o6):spl 32 (ltx m)=wds m:=b9o _ _ (e09 m)
def zS:o6:=o6.mk 0 0 false 0 0 (q9.mk 0 0 0 0) false false
def e0t (o:Nat) (v:Int) (m:o6):o6:=match o with
 | 1=>{ m with Spots:=v }
 | 3=>{ m with Readers:=v }
 | 4=>{ m with Since:=v }
 | 5=>{ m with Severity:={ m.Severity with Level:=v } }
 | 6=>{ m with Severity:={ m.Severity with Worth:=v } }
 | 7=>{ m with Severity:={ m.Severity with Audience:=v } }
 | 8=>{ m with Severity:={ m.Severity with Score:=v } }
 | _=>m
abbrev d1o:List (Int×Nat):=[(3,1),(6,3),(8,4),(10,5),(12,6),(14,7),(16,8)]
def bdy (y:List Str) (s:Bool×o6) (a:Int×Nat):Bool×o6:=(s.1||!a1i (y.getD a.1.toNat default),e0t a.2 (a1a (y.getD a.1.toNat default)) s.2)
theorem f7i {y:List Str} (hy:y.length=19) (hl:∀k,(y.getD k default).length≤281474976710656) {a:Int×Nat} (ha:a∈d1o) (k:Int) (s:Bool×o6):d9z y k a s=some (bdy y s a):=by
 have at':∀k,a4i (y.getD k default)=some (a1a (y.getD k default),a1i (y.getD k default)):=fun k=>o9 (wU (hl k))
 have ib:∀k:Int,0≤k→k<19→inb k y.length=true:=fun k h0 h1=>u6.2 ⟨h0,by omega⟩
 simp only [d1o,wZ,List.not_mem_nil,or_false] at ha
 rcases ha with rfl|rfl|rfl|rfl|rfl|rfl|rfl
 ·show chk (inb 3 y.length) ((a4i (y.getD 3 default)).bind _)=_
  rw [o9 (ib 3 (by decide) (by decide)),at'];rfl
 ·show chk (inb 6 y.length) ((a4i (y.getD 6 default)).bind _)=_
  rw [o9 (ib 6 (by decide) (by decide)),at'];rfl
 ·show chk (inb 8 y.length) ((a4i (y.getD 8 default)).bind _)=_
  rw [o9 (ib 8 (by decide) (by decide)),at'];rfl
 ·show chk (inb 10 y.length) ((a4i (y.getD 10 default)).bind _)=_
  rw [o9 (ib 10 (by decide) (by decide)),at'];rfl
 ·show chk (inb 12 y.length) ((a4i (y.getD 12 default)).bind _)=_
  rw [o9 (ib 12 (by decide) (by decide)),at'];rfl
 ·show chk (inb 14 y.length) ((a4i (y.getD 14 default)).bind _)=_
  rw [o9 (ib 14 (by decide) (by decide)),at'];rfl
 ·show chk (inb 16 y.length) ((a4i (y.getD 16 default)).bind _)=_
  rw [o9 (ib 16 (by decide) (by decide)),at'];rfl
theorem c6h {y:List Str} (hy:y.length=19) (hl:∀k,(y.getD k default).length≤281474976710656):∀(l:List (Int×Nat)) (k:Int) (s:Bool×o6),(∀a∈l,a∈d1o)→a09 (d9z y) l k s=some (l.foldl (bdy y) s)
 | [],k,s,_=>rfl
 | a::l,k,s,h=>by
  simp only [a09,f7i hy hl (h a (by simp)),xY,wP]
  exact c6h hy hl l (k+1) _ fun b hb=>h b (by simp [hb])
theorem d25 {y:List Str}:∀a∈d1o,∀b∈d1o,∀s,bdy y (bdy y s a) b=bdy y (bdy y s b) a:=by
 intro a ha b hb s
 have hB:∀p q r:Bool,((p||q)||r)=((p||r)||q):=by decide
 unfold bdy
 refine Prod.ext (hB _ _ _) ?_
 show e0t b.2 _ (e0t a.2 _ s.2)=e0t a.2 _ (e0t b.2 _ s.2)
 simp only [d1o,wZ,List.not_mem_nil,or_false] at ha hb
 rcases ha with rfl|rfl|rfl|rfl|rfl|rfl|rfl<;>rcases hb with rfl|rfl|rfl|rfl|rfl|rfl|rfl<;>rfl
def e7k (y:List Str):Bool:=!(a1i (y.getD 3 default)&&a1i (y.getD 6 default)&&a1i (y.getD 8 default)&&a1i (y.getD 10 default)&&a1i (y.getD 12 default)&&a1i (y.getD 14 default)&&a1i (y.getD 16 default))
def tS (u:Int) (y:List Str):o6:=o6.mk u (a1a (y.getD 3 default)) (decide ((y.getD 4 default)=d2n)) (a1a (y.getD 6 default)) (a1a (y.getD 8 default))
 (q9.mk (a1a (y.getD 10 default)) (a1a (y.getD 12 default)) (a1a (y.getD 14 default)) (a1a (y.getD 16 default))) (decide ((y.getD 17 default)=d3r)) (decide ((y.getD 18 default)=b7y))
theorem e0j {u:Int} (h0:0≤u) (h1:u≤18446744073709551615) (y:List Str):SV (tS u y):=by
 have r:∀s,a0l (a1a s)=true:=fun s=>by have:=b2q s;rw [e1e] at this;exact this
 exact ⟨h0,h1,r _,r _,r _,r _,r _,r _,r _⟩
theorem d51 {s:Str} (h:s.length≤281474976710656):∃u b,puE s 10 64=some (u,b)∧0≤u∧u≤18446744073709551615:=by
 unfold puE
 rw [o9 (by simp [h])]
 cases e:Lib.parseUintB 64 s with
 | ok u=>exact ⟨u,true,rfl,by omega,by have:=Lib.parseUintB_le e;simp at this;omega⟩
 | range=>exact ⟨_,_,rfl,by decide,by decide⟩
 | _=>exact ⟨0,false,rfl,by decide,by decide⟩
theorem b50 {u:Nat} (h:u≤18446744073709551615):puE (Lib.decDigits u) 10 64=some ((u:Int),true):=by
 have hl:=c74 (u:=u) (by omega)
 unfold puE
 rw [o9 (by simp;omega),Lib.parseUintB_64,b8s u h]
theorem c4e (b:UInt8) (s:Str) (k:Nat):((spl b s).getD k default).length≤s.length:=by
 by_cases h:k<(spl b s).length
 ·have:(spl b s).getD k default∈spl b s:=by rw [zE,zJ h];exact wC h
  exact b85 b s _ this
 ·rw [zE,List.getElem?_eq_none (by omega)];exact vI _
theorem d52 {t:Str} (ht:t.length≤1000):∃u:Int,0≤u∧u≤18446744073709551615∧(∀m,SV m→spl 32 t=wds m→u=m.Fingerprint) ∧
  ((∃b,F_a t=some (bif b||(!decide ((spl 32 t).length=19)||!decide (ltx (tS u (spl 32 t))=t)) then (zS,4) else (tS u (spl 32 t),0))∧(∀m,SV m→spl 32 t=wds m→b=false))):=by
 have es:d43 t [32]=some (spl 32 t):=by
  unfold d43;simp only;rw [wU (by omega)];rfl
 have hl:∀k,((spl 32 t).getD k default).length≤281474976710656:=fun k=>vC (c4e 32 t k) (by omega)
 obtain ⟨u,bu,hu,h0,h1⟩:=d51 (hl 1)
 refine ⟨u,h0,h1,fun m hm e=>?_,?_⟩
 ·rw [e] at hu
  have h2:puE ((wds m).getD 1 default) 10 64=some ((m.Fingerprint.toNat:Int),true):=b50 (by have:=hm.f1;omega)
  rw [h2] at hu
  have:=congrArg Prod.fst (wI hu)
  simp only at this
  have:=hm.f0;omega
 ·generalize hy:spl 32 t=y at es hl hu
  by_cases h19:y.length=19
  ·have hperm:∀l,l.Perm d1o→a09 (d9z y) l 0 (!bu,zS)=some (d1o.foldl (bdy y) (!bu,zS)):=fun l hp=>by
    rw [c6h h19 hl l 0 _ fun a ha=>hp.mem_iff.1 ha]
    exact congrArg some (List.Perm.foldl_eq' hp (fun a ha b hb s=>d25 a (hp.mem_iff.1 ha) b (hp.mem_iff.1 hb) s) _)
   have hfin:d1o.foldl (bdy y) (!bu,zS)=(!bu||e7k y,{ tS u y with Fingerprint:=0,Public:=false,Rotated:=false,Dead:=false }):=by
    refine Prod.ext ?_ rfl
    show (((((((!bu||!a1i _)||!a1i _)||!a1i _)||!a1i _)||!a1i _)||!a1i _)||!a1i _)=_
    unfold e7k
    have:∀a b c d e f g h:Bool,(((((((!a||!b)||!c)||!d)||!e)||!f)||!g)||!h)=(!a||!(b&&c&&d&&e&&f&&g&&h)):=by decide
    exact this _ _ _ _ _ _ _ _
   refine ⟨!bu||e7k y,?_,fun m hm e=>?_⟩
   ·refine Ok.eq ?_
    unfold F_a
    refine Ok.bind (Ok.of es rfl) fun y' e=>?_
    subst e
    refine Ok.ite (fun hc=>by simp [h19] at hc) fun _=>?_
    refine Ok.chk (u6.2 ⟨by decide,by omega⟩) (Ok.bind (Ok.of hu rfl) fun q e=>?_)
    subst e
    refine Ok.of (b56 fun l hp=>?_) rfl
    show ((a09 (d9z y) l 0 (!bu,zS)).bind _)=_
    rw [hperm l hp,hfin,xY,o9 (u6.2 ⟨by decide,by omega⟩),o9 (u6.2 ⟨by decide,by omega⟩),o9 (u6.2 ⟨by decide,by omega⟩)]
    cases hw:(!bu||e7k y) with
    | true=>simp only [vP,Bool.true_or];rfl
    | false =>
     simp only [vN,w6]
     show ((F_9 (tS u y)).bind fun y127=>bif !decide (y127=t) then some (zS,4) else some (tS u y,0))=_
     rw [d2o (e0j h0 h1 y),xY]
     rw [wU h19,w5,w6]
     cases hd:(!decide (ltx (tS u y)=t))<;>rfl
   ·have hat:∀{n:Int},a0l n=true→a1i (Lib.itoa n)=true:=fun {n} h=>by
     have:=b7g (a1p.1 h).1 (a1p.1 h).2
     have:=(b2r this).2
     have:=congrArg Prod.snd this
     exact this.symm
    rw [e] at hu
    have h2:puE ((wds m).getD 1 default) 10 64=some ((m.Fingerprint.toNat:Int),true):=b50 (by have:=hm.f1;omega)
    rw [h2] at hu
    have hb:=congrArg Prod.snd (wI hu)
    simp only at hb
    subst hb
    rw [e]
    unfold e7k
    show (!true||!(a1i (Lib.itoa _)&&a1i (Lib.itoa _)&&a1i (Lib.itoa _)&&a1i (Lib.itoa _)&&a1i (Lib.itoa _)&&a1i (Lib.itoa _)&&a1i (Lib.itoa _)))=false
    rw [hat hm.a,hat hm.b,hat hm.c,hat hm.d,hat hm.e,hat hm.f,hat hm.g];rfl
  ·refine ⟨true,?_,fun m hm e=>absurd (by rw [e];rfl) h19⟩
   refine Ok.eq ?_
   unfold F_a
   refine Ok.bind (Ok.of es rfl) fun y' e=>?_
   subst e
   refine Ok.ite (fun _=>Ok.ret rfl) fun hc=>?_
   simp at hc;omega
theorem c48 {m:o6} (hm:SV m):tS m.Fingerprint (wds m)=m:=by
 have hat:∀{n:Int},a0l n=true→a1a (Lib.itoa n)=n:=fun {n} h=>by
  have:=b7g (a1p.1 h).1 (a1p.1 h).2
  exact (congrArg Prod.fst (b2r this).2).symm
 have c1:∀b,decide (ch b d2n e0a=d2n)=b:=fun b=>by cases b<;>decide
 have c2:∀b,decide (ch b d3r f0i=d3r)=b:=fun b=>by cases b<;>decide
 have c3:∀b,decide (ch b b7y f0j=b7y)=b:=fun b=>by cases b<;>decide
 show o6.mk m.Fingerprint (a1a (Lib.itoa _)) (decide (ch _ d2n e0a=d2n)) (a1a (Lib.itoa _)) (a1a (Lib.itoa _)) (q9.mk (a1a (Lib.itoa _)) (a1a (Lib.itoa _)) (a1a (Lib.itoa _)) (a1a (Lib.itoa _))) (decide (ch _ d3r f0i=d3r)) (decide (ch _ b7y f0j=b7y))=m
 rw [hat hm.a,hat hm.b,hat hm.c,hat hm.d,hat hm.e,hat hm.f,hat hm.g,c1,c2,c3]
def d8f (t:Str) (r:o6×Int):Prop:=(∃m,SV m∧ltx m=t∧r=(m,0))∨((∀m,SV m→ltx m≠t)∧r=(zS,4))
theorem e1i {t:Str} (ht:t.length≤1000):Ok (F_a t) (d8f t):=by
 obtain ⟨u,h0,h1,hm,b,hb,hbf⟩:=d52 ht
 refine ⟨_,hb,?_⟩
 by_cases h:∃m,SV m∧ltx m=t
 ·obtain ⟨m,hm1,rfl⟩:=h
  have e:=b84 m
  have e1:=hm m hm1 e
  subst e1
  rw [hbf m hm1 e,e,c48 hm1]
  refine .inl ⟨m,hm1,rfl,?_⟩
  simp [wds]
 ·refine .inr ⟨fun m hm1 e=>h ⟨m,hm1,e⟩,?_⟩
  have:decide (ltx (tS u (spl 32 t))=t)=false:=wH fun e=>h ⟨_,e0j h0 h1 _,e⟩
  rw [this];simp
theorem d4y {t:Str} {r r':o6×Int} (h:d8f t r) (h':d8f t r'):r=r':=by
 rcases h with ⟨m,hm,e,rfl⟩|⟨h,rfl⟩<;>rcases h' with ⟨m',hm',e',rfl⟩|⟨h',rfl⟩
 ·have e1:=b84 m
  have e2:=b84 m'
  rw [e] at e1;rw [e'] at e2
  have e3:wds m=wds m':=e1.symm.trans e2
  have hf:m.Fingerprint=m'.Fingerprint:=by
   have h1:puE ((wds m).getD 1 default) 10 64=some ((m.Fingerprint.toNat:Int),true):=b50 (by have:=hm.f1;omega)
   have h2:puE ((wds m').getD 1 default) 10 64=some ((m'.Fingerprint.toNat:Int),true):=b50 (by have:=hm'.f1;omega)
   rw [e3,h2] at h1
   have:=congrArg Prod.fst (wI h1)
   simp only at this
   have:=hm.f0;have:=hm'.f0;omega
  have h1:=c48 hm
  have h2:=c48 hm'
  rw [e3,hf,h2] at h1
  rw [h1]
 ·exact absurd e (h' m hm)
 ·exact absurd e' (h m' hm')
 ·rfl
end Go.Ab
set_option maxRecDepth 20000
namespace Go.Ab
open Go.Proofs
def m43:o6:=⟨7,1,false,2,5,⟨2,100,3,300⟩,true,true⟩
theorem d30:SV m43:=by
 have h:∀n:Int,-9223372036854775808≤n→n≤9223372036854775807→a0l n=true:=fun n a b=>a1p.2 ⟨a,b⟩
 exact ⟨by decide,by decide,h _ (by decide) (by decide),h _ (by decide) (by decide),h _ (by decide) (by decide),h _ (by decide) (by decide),h _ (by decide) (by decide),h _ (by decide) (by decide),h _ (by decide) (by decide)⟩
abbrev t43:Str:=[108,101,97,107,32,55,32,115,112,111,116,115,32,49,32,105,110,115,105,100,101,32,114,101,97,100,101,114,115,32,50,32,115,105,110,99,101,32,53,32,108,101,118,101,108,32,50,32,119,111,114,116,104,32,49,48,48,32,97,117,100,105,101,110,99,101,32,51,32,115,99,111,114,101,32,51,48,48,32,114,111,116,97,116,101,100,32,100,101,97,100]
theorem d9b {u:Nat} (h:u<10):Lib.decDigits u=[UInt8.ofNat (48+u)]:=by rw [Lib.decDigits,dif_pos h]
theorem g1m {a b c:Nat} (h0:1≤a) (ha:a<10) (hb:b<10) (hc:c<10):Lib.decDigits (100*a+10*b+c)=[UInt8.ofNat (48+a),UInt8.ofNat (48+b),UInt8.ofNat (48+c)]:=by
 rw [Lib.decDigits,dif_neg (by omega),show (100*a+10*b+c) / 10=10*a+b by omega,show (100*a+10*b+c) % 10=c by omega,Lib.decDigits,dif_neg (by omega),show (10*a+b) / 10=a by omega,show (10*a+b) % 10=b by omega,d9b ha]
 rfl
theorem e5r:ltx m43=t43:=by
 have i:∀u:Nat,Lib.itoa (u:Int)=Lib.decDigits u:=fun u=>Lib.itoa_nonneg u
 have e:wds m43=[[108,101,97,107],[55],[115,112,111,116,115],[49],[105,110,115,105,100,101],
  [114,101,97,100,101,114,115],[50],[115,105,110,99,101],[53],[108,101,118,101,108],[50],[119,111,114,116,104],[49,48,48],
  [97,117,100,105,101,110,99,101],[51],[115,99,111,114,101],[51,48,48],[114,111,116,97,116,101,100],[100,101,97,100]]:=by
  show [[108,101,97,107],Lib.decDigits 7,[115,112,111,116,115],Lib.itoa ((1:Nat):Int),[105,110,115,105,100,101],
   [114,101,97,100,101,114,115],Lib.itoa ((2:Nat):Int),[115,105,110,99,101],Lib.itoa ((5:Nat):Int),[108,101,118,101,108],Lib.itoa ((2:Nat):Int),[119,111,114,116,104],Lib.itoa ((100*1+10*0+0:Nat):Int),
   [97,117,100,105,101,110,99,101],Lib.itoa ((3:Nat):Int),[115,99,111,114,101],Lib.itoa ((100*3+10*0+0:Nat):Int),[114,111,116,97,116,101,100],[100,101,97,100]]=_
  rw [i,i,i,i,i,i,d9b (u:=7) (by decide),d9b (u:=1) (by decide),d9b (u:=2) (by decide),d9b (u:=5) (by decide),d9b (u:=3) (by decide),g1m (a:=1) (b:=0) (c:=0) (by decide) (by decide) (by decide) (by decide),g1m (a:=3) (b:=0) (c:=0) (by decide) (by decide) (by decide) (by decide)]
  rfl
 unfold ltx
 rw [e];rfl
theorem c7c (m:o6):f2c m=some (m.Rotated&&m.Dead):=rfl
theorem c7u:d9q=some true:=by
 obtain ⟨r,hr,hres⟩:=e1i (t:=t43) (by decide)
 have e:=d4y hres (.inl ⟨m43,d30,e5r,rfl⟩)
 subst e
 refine Ok.eq ?_
 unfold d9q
 refine Ok.bind (Ok.of hr rfl) fun y e=>?_
 subst e
 refine Ok.jn (P:=fun b=>b=true) ?_ fun b e=>?_
 ·refine Ok.ite (fun _=>?_) fun h=>by simp at h
  refine Ok.bind (Ok.of (d2o d30) rfl) fun y e=>?_
  subst e
  rw [e5r]
  exact Ok.ret (wU rfl)
 ·subst e
  refine Ok.grp (Ok.grp ?_)
  refine Ok.jn (P:=fun b=>b=true) ?_ fun b e=>by subst e;exact Ok.ret rfl
  exact Ok.ite (fun _=>Ok.bind (Ok.of (c7c m43) rfl) fun y e=>by subst e;exact Ok.ret rfl) fun h=>by simp [m43] at h
end Go.Ab
namespace Go.Ab
open Go.Proofs
def d98 (s:Str):Prop:=1≤s.length∧s.length≤40∧∀c∈s,97≤c.toNat∧c.toNat≤122
instance (s:Str):Decidable (d98 s):=inferInstanceAs (Decidable (_∧_∧_))
def b8w (i:a0e):Prop:=d98 i.Name∧1≤i.Slots∧i.Slots≤2
instance (i:a0e):Decidable (b8w i):=inferInstanceAs (Decidable (_∧_∧_))
def d3c (n:Nat) (c:o7):Prop:=0≤c.Issuer∧c.Issuer<n∧0≤c.Holder∧c.Holder≤23∧0≤c.From∧c.From<c.Until∧c.Until≤1099511627777
instance (n:Nat) (c:o7):Decidable (d3c n c):=inferInstanceAs (Decidable (_∧_∧_∧_∧_∧_∧_))
def hdB (i h t:Int) (c:o7):Bool:=decide (c.Issuer=i)&&decide (c.Holder=h)&&decide (c.From≤t)&&decide (t<c.Until)
def c0s {α:Type} (p:α→Bool):Nat→List α→List Int
 | _,[]=>[]
 | k,x::r=>bif p x then (k:Int)::c0s p (k+1) r else c0s p (k+1) r
def f5n (L:List o7) (i h t:Int):List Int:=c0s (hdB i h t) 0 L
def crR (r:o5) (c:o7):Prop:=((f5n r.Credentials c.Issuer c.Holder c.From).length:Int)≤(r.Issuers.getD c.Issuer.toNat default).Slots
instance (r:o5) (c:o7):Decidable (crR r c):=inferInstanceAs (Decidable (_≤_))
def a7a (r:o5):Prop:=r.Issuers.length≤8∧r.Credentials.length≤24∧(∀i∈r.Issuers,b8w i)∧(∀c∈r.Credentials,d3c r.Issuers.length c)∧∀c∈r.Credentials,crR r c
instance (r:o5):Decidable (a7a r):=inferInstanceAs (Decidable (_∧_∧_∧_∧_))
theorem c0r {α:Type} (p:α→Bool):∀(l:List α) (k:Nat),(c0s p k l).length≤l.length
 | [],k=>vK _
 | x::r,k=>by
  simp only [c0s]
  have:=c0r p r (k+1)
  cases p x<;>simp<;>omega
theorem c0k {α:Type} [Inhabited α] {p:α→Bool} {i:Int}:∀{l:List α} {k:Nat},i∈c0s p k l↔∃j,j<l.length∧i=(k+j:Nat)∧p (l.getD j default)=true
 | [],k=>by simp [c0s]
 | x::r,k=>by
  simp only [c0s]
  have ih:=c0k (p:=p) (i:=i) (l:=r) (k:=k+1)
  have e:(∃j,j<(x::r).length∧i=(k+j:Nat)∧p ((x::r).getD j default)=true)↔(i=k∧p x=true)∨∃j,j<r.length∧i=(k+1+j:Nat)∧p (r.getD j default)=true:=by
   constructor
   ·rintro ⟨j,h1,h2,h3⟩
    cases j with
    | zero=>exact .inl ⟨by simpa using h2,by simpa using h3⟩
    | succ j=>exact .inr ⟨j,by simpa using h1,by rw [h2];omega,by simpa using h3⟩
   ·rintro (⟨h1,h2⟩|⟨j,h1,h2,h3⟩)
    ·exact ⟨0,by simp,by simpa using h1,by simpa using h2⟩
    ·exact ⟨j+1,by simpa using h1,by rw [h2];omega,by simpa using h3⟩
  rw [e,←ih]
  cases hp:p x<;>simp
theorem a3f {α:Type} {body:Int→α→List Int→Option (List Int)} (p:α→Bool) (n:Nat) (hn:n≤100000):∀(l:List α) (k:Nat) (s:List Int),s.length+l.length≤n →
  (∀(k:Int) (a:α) (x:List Int),a∈l→x.length<n→body k a x=some (bif p a then x++[k] else x))→a09 body l (k:Int) s=some (s++c0s p k l)
 | [],k,s,h,hb=>by simp [a09,c0s]
 | a::r,k,s,h,hb=>by
  simp only [wB] at h
  simp only [a09,hb k a s (by simp) (by omega),xY]
  have e:((k:Int)+1)=((k+1:Nat):Int):=by omega
  rw [e]
  cases hp:p a with
  | true =>
   rw [vP,a3f p n hn r (k+1) _ (by simp;omega) fun k a x ha=>hb k a x (by simp [ha])]
   simp [c0s,hp]
  | false =>
   rw [vN,a3f p n hn r (k+1) _ (by omega) fun k a x ha=>hb k a x (by simp [ha])]
   simp [c0s,hp]
theorem c4u (x a b:Int):d8n x a b=some (decide (a≤x)&&decide (x≤b)):=rfl
theorem e1j (x a b:Int):d9n x a b=some (decide (a≤x)&&decide (x≤b)):=rfl
theorem a8s {a b x:Int}:((decide (a≤x)&&decide (x≤b))=true)↔(a≤x∧x≤b):=by simp
theorem c29 (s:Str) (h:s.length≤40):Ok (loop (f2s s) 0) fun r=>(r=.inl ()∧∀c∈s,97≤c.toNat∧c.toNat≤122)∨(r=.inr false∧¬∀c∈s,97≤c.toNat∧c.toNat≤122):=by
 refine Ok.loop (fun x:Int=>0≤x∧x≤s.length∧∀c∈s.take x.toNat,97≤c.toNat∧c.toNat≤122) (fun x:Int=>(s.length - x).toNat) (fun x hx=>?_) 0 ⟨by omega,by omega,by simp⟩
 obtain ⟨h0,h1,h2⟩:=hx
 unfold f2s
 refine Ok.ite (fun c=>?_) fun c=>?_
 ·have c:x<s.length:=by simpa using c
  have hi:x.toNat<s.length:=by omega
  have hm:s.getD x.toNat 0∈s:=by simp [zE,hi]
  refine Ok.chk (u6.2 ⟨h0,c⟩) (Ok.ite (fun c1=>Ok.ret ?_) fun c1=>Ok.chk (u6.2 ⟨h0,c⟩) (Ok.ite (fun c2=>Ok.ret ?_) fun c2=>Ok.chk (a00 (by omega) (by omega)) (Ok.ret ?_)))
  ·refine .inr ⟨rfl,fun hh=>?_⟩
   have:=hh _ hm
   have c1:((s.getD x.toNat 0).toNat:Int)<97:=by simpa using c1
   omega
  ·refine .inr ⟨rfl,fun hh=>?_⟩
   have:=hh _ hm
   have c2:122<((s.getD x.toNat 0).toNat:Int):=by simpa using c2
   omega
  ·have c1:¬((s.getD x.toNat 0).toNat:Int)<97:=by simpa using c1
   have c2:¬122<((s.getD x.toNat 0).toNat:Int):=by simpa using c2
   refine ⟨⟨by omega,by omega,fun q hq=>?_⟩,by omega⟩
   rw [show (x+1).toNat=x.toNat+1 by omega,List.take_add_one] at hq
   rcases wM.1 hq with hq|hq
   ·exact h2 q hq
   ·rw [zJ hi] at hq
    simp only [Option.toList_some,xG] at hq
    subst hq
    have:s.getD x.toNat 0=s[x.toNat]:=by simp [zE,hi]
    rw [this] at c1 c2
    omega
 ·have c:¬x<s.length:=by simpa using c
  refine Ok.ret (.inl ⟨rfl,?_⟩)
  rwa [show x.toNat=s.length by omega,xZ] at h2
theorem c9f (s:Str) (hs:s.length≤1000000):e9y s=some (decide (d98 s)):=by
 unfold e9y
 rw [c4u,xY]
 by_cases h:1≤s.length∧s.length≤40
 ·have e:(decide ((1:Int)≤s.length)&&decide ((s.length:Int)≤40))=true:=a8s.2 (by omega)
  rw [e]
  obtain ⟨r,e1,e2⟩:=c29 s h.2
  simp only [w5,vN,e1,xY]
  rcases e2 with ⟨rfl,e2⟩|⟨rfl,e2⟩
  ·simp only [Sum.elim_inl];rw [wU ⟨h.1,h.2,e2⟩]
  ·simp only [Sum.elim_inr];rw [wH fun hh=>e2 hh.2.2]
 ·have e:(decide ((1:Int)≤s.length)&&decide ((s.length:Int)≤40))=false:=by
   rw [Bool.eq_false_iff];intro hh;have:=a8s.1 hh;omega
  rw [e]
  simp only [wW,vP]
  rw [wH fun hh=>h ⟨hh.1,hh.2.1⟩]
theorem b3s (r:o5) (c:o7) (h:r.Issuers.length≤8):e92 r c=some (decide (d3c r.Issuers.length c)):=by
 unfold e92
 rw [o9 (a00 (by omega) (by omega))]
 simp only [c4u,xY,jn,grp]
 cases h1:(decide (0≤c.Issuer)&&decide (c.Issuer≤(r.Issuers.length:Int) - 1)) with
 | false =>
  simp only [vN,xY,Bool.false_and]
  rw [wH];intro hh
  have:(decide (0≤c.Issuer)&&decide (c.Issuer≤(r.Issuers.length:Int) - 1))=true:=a8s.2 ⟨hh.1,by have:=hh.2.1;omega⟩
  rw [h1] at this;cases this
 | true =>
  have h1:=a8s.1 h1
  simp only [vP,xY]
  congr 1
  rw [wT]
  simp only [wF,xN]
  constructor
  ·rintro ⟨⟨⟨⟨a,b⟩,c'⟩,d⟩,e⟩
   exact ⟨h1.1,by omega,a,b,c',d,e⟩
  ·rintro ⟨_,_,a,b,c',d,e⟩
   exact ⟨⟨⟨⟨a,b⟩,c'⟩,d⟩,e⟩
theorem c9g (r:o5) (i h t:Int) (hn:r.Credentials.length≤24):e9x r i h t=some (f5n r.Credentials i h t):=by
 unfold e9x
 rw [show (0:Int)=((0:Nat):Int) from rfl,a3f (hdB i h t) 24 (by omega) r.Credentials 0 [] (by simpa using hn) fun k a x ha hx=>?_]
 ·rfl
 ·unfold f9s
  simp only [grp,hdB]
  cases (decide (a.Issuer=i)&&decide (a.Holder=h)&&decide (a.From≤t)&&decide (t<a.Until)) with
  | false=>rfl
  | true=>simp only [vP];rw [o9 (a0c (by simp;omega))]
theorem a1m {α ρ:Type} {f:α→Option ρ} {p:α→Prop} [DecidablePred p] {y:ρ}:∀{l:List α},(∀x∈l,f x=if p x then none else some y)→a3h f l=if (∀x∈l,p x) then none else some y
 | [],h=>by simp [a3h]
 | x::r,h=>by
  simp only [a3h,h x (by simp)]
  by_cases hp:p x
  ·simp only [hp,if_true]
   rw [a1m (p:=p) (y:=y) fun x hx=>h x (by simp [hx])]
   by_cases hq:∀x∈r,p x
   ·rw [if_pos hq,if_pos (by simpa using ⟨hp,hq⟩)]
   ·rw [if_neg hq,if_neg fun hh=>hq fun x hx=>hh x (by simp [hx])]
  ·simp only [hp,if_false]
   rw [if_neg fun hh=>hp (hh x (by simp))]
theorem b0z (r:o5) (hn:∀i∈r.Issuers,i.Name.length≤1000000):F_e r=some (decide (a7a r)):=by
 unfold F_e
 simp only [grp]
 by_cases h0:r.Issuers.length≤8∧r.Credentials.length≤24
 ·have e:(decide ((8:Int)<r.Issuers.length)||decide ((24:Int)<r.Credentials.length))=false:=by simp;omega
  rw [e,vN]
  rw [a0t (fun i=>if b8w i then none else some false) r.Issuers 0 fun k a ha=>?_]
  ·rw [a1m (p:=b8w) (y:=false) fun _ _=>rfl,xY,a2n]
   by_cases h1:∀i∈r.Issuers,b8w i
   ·rw [if_pos h1]
    simp only
    rw [a0t (fun c=>if d3c r.Issuers.length c then none else some false) r.Credentials 0 fun k a ha=>?_]
    ·rw [a1m (p:=d3c r.Issuers.length) (y:=false) fun _ _=>rfl,xY,a2n]
     by_cases h2:∀c∈r.Credentials,d3c r.Issuers.length c
     ·rw [if_pos h2]
      simp only
      rw [a0t (fun c=>if crR r c then none else some false) r.Credentials 0 fun k a ha=>?_]
      ·rw [a1m (p:=crR r) (y:=false) fun _ _=>rfl,xY,a2n]
       by_cases h3:∀c∈r.Credentials,crR r c
       ·rw [if_pos h3,wU ⟨h0.1,h0.2,h1,h2,h3⟩]
       ·rw [if_neg h3,wH fun hh=>h3 hh.2.2.2.2]
      ·unfold f9r
       obtain ⟨q1,q2,_⟩:=h2 a ha
       rw [c9g r _ _ _ h0.2,xY,o9 (u6.2 ⟨q1,q2⟩)]
       by_cases hc:crR r a
       ·rw [if_pos hc];unfold crR at hc;rw [wH (by omega)];rfl
       ·rw [if_neg hc];unfold crR at hc;rw [wU (by omega)];rfl
     ·rw [if_neg h2,wH fun hh=>h2 hh.2.2.2.1]
    ·unfold g0g
     rw [b3s r a h0.1,xY]
     by_cases hc:d3c r.Issuers.length a
     ·rw [if_pos hc,wU hc];rfl
     ·rw [if_neg hc,wH hc];rfl
   ·rw [if_neg h1,wH fun hh=>h1 hh.2.2.1]
  ·unfold g0s
   rw [c9f _ (hn a ha),xY,c4u]
   by_cases h1:d98 a.Name
   ·rw [wU h1]
    simp only [w5,vN,xY]
    by_cases h2:1≤a.Slots∧a.Slots≤2
    ·rw [a8s.2 h2,if_pos ⟨h1,h2⟩];rfl
    ·rw [if_neg fun hh=>h2 hh.2,show (decide (1≤a.Slots)&&decide (a.Slots≤2))=false by rw [Bool.eq_false_iff];exact fun hh=>h2 (a8s.1 hh)];rfl
   ·rw [wH h1,if_neg fun hh=>h1 hh.1];rfl
 ·have e:(decide ((8:Int)<r.Issuers.length)||decide ((24:Int)<r.Credentials.length))=true:=by simp;omega
  rw [e,vP,wH fun hh=>h0 ⟨hh.1,hh.2.1⟩]
theorem d0s {r:o5} {c:o7} (h:a7a r):Ok (e91 r c) fun y=>y.2.2=0→a7a y.1∧y.1.Issuers=r.Issuers:=by
 have hn:∀i∈r.Issuers,i.Name.length≤1000000:=fun i hi=>by have:=(h.2.2.1 i hi).1.2.1;omega
 unfold e91
 rw [b0z r hn,xY,wU h]
 simp only [w5,vN]
 refine Ok.ite (fun c=>Ok.ret fun e=>by simp at e) fun c1=>?_
 have c1:¬(24:Int)≤r.Credentials.length:=by simpa using c1
 unfold f2a
 have l8:=h.1
 rw [o9 (a0c (by omega)),o9 (a0c (by omega)),xY]
 refine Ok.chk (a0c (by simp;omega)) ?_
 rw [b0z (o5.mk r.Issuers (r.Credentials++[c])) hn,xY]
 by_cases hk:a7a ⟨r.Issuers,r.Credentials++[c]⟩
 ·rw [wU hk]
  exact Ok.ret fun _=>⟨hk,rfl⟩
 ·rw [wH hk]
  exact Ok.ret fun e=>by simp at e
theorem e5z:d98 [105,115,115,117,101,114]:=by decide
theorem b8i {t:w9} (h:TOK t):Ok (f0d t) fun y=>a7a y.1∧TOK y.2:=by
 unfold f0d
 refine Ok.bind (a18 h (by omega) (by omega) (by omega)) fun y hy=>?_
 refine Ok.bind (Ok.loop (Q:=fun y:List a0e×w9=>y.1.length≤2∧1≤y.1.length∧(∀i∈y.1,b8w i)∧TOK y.2) (fun x=>0≤x.1∧(x.2.1.length:Int)+x.1≤2∧1≤(x.2.1.length:Int)+x.1∧(∀i∈x.2.1,b8w i)∧TOK x.2.2) (fun x=>x.1.toNat) (fun x hx=>?_) _ ?_) fun r hr=>?_
 ·obtain ⟨k,out,t⟩:=x
  obtain ⟨h1,h2,h2',h3,h4⟩:=hx
  simp only at h1 h2 h2' h3 h4
  unfold g0r
  refine Ok.ite (fun c=>?_) fun c=>?_
  ·have c:0<k:=by simpa using c
   refine Ok.bind (a18 h4 (by omega) (by omega) (by omega)) fun y hy=>?_
   refine Ok.chk (a0c (by simp;omega)) (Ok.chk (a00 (by simp only;omega) (by simp only;omega)) (Ok.ret ?_))
   simp only [Fl.elim]
   refine ⟨⟨by omega,by simp;omega,by simp;omega,fun i hi=>?_,hy.2.2⟩,by omega⟩
   simp only [wM,xG] at hi
   rcases hi with hi|rfl
   ·exact h3 i hi
   ·exact ⟨e5z,hy.1,hy.2.1⟩
  ·have c:¬0<k:=by simpa using c
   refine Ok.ret ?_
   simp only [Fl.elim]
   exact ⟨by omega,by omega,h3,h4⟩
 ·exact ⟨by show 0≤y.1;omega,by show ((0:Nat):Int)+y.1≤2;omega,by show 1≤((0:Nat):Int)+y.1;omega,by simp,hy.2.2⟩
 ·obtain ⟨r1,r1',r2,r3⟩:=hr
  refine Ok.bind (a0a r3 (by omega)) fun z hz=>?_
  refine Ok.bind (Ok.loop (Q:=fun y:o5×w9=>a7a y.1∧TOK y.2) (fun x=>0≤x.1∧x.1≤8∧a7a x.2.1∧1≤x.2.1.Issuers.length∧TOK x.2.2) (fun x=>x.1.toNat) (fun x hx=>?_) _ ?_) fun r hr=>Ok.ret hr
  ·obtain ⟨k,reg,t⟩:=x
   obtain ⟨h1,h2,h3,h3',h4⟩:=hx
   simp only at h1 h2 h3 h3' h4
   unfold f9q
   refine Ok.ite (fun c=>?_) fun c=>Ok.ret ⟨h3,h4⟩
   have c:0<k:=by simpa using c
   refine Ok.jn (P:=fun j:o5×w9=>a7a j.1∧1≤j.1.Issuers.length∧TOK j.2) ?_ fun j hj=>Ok.chk (a00 (by simp only;omega) (by simp only;omega)) (Ok.ret ?_)
   ·refine Ok.bind (P:=fun y:o7×w9=>TOK y.2) ?_ fun y hy=>Ok.bind (d0s h3) fun w hw=>?_
    ·unfold f2b
     refine Ok.bind (a0a h4 (by omega)) fun a ha=>Ok.bind (a0a ha.2.2 (by simp only;omega)) fun b hb=>Ok.bind (a0a hb.2.2 (by omega)) fun c hc=>Ok.bind (a0a hc.2.2 (by omega)) fun d hd=>?_
     exact Ok.chk (a00 (by omega) (by omega)) (Ok.bind (a0a hd.2.2 (by omega)) fun e he=>Ok.chk (a00 (by omega) (by omega)) (Ok.ret he.2.2))
    ·refine Ok.ite (fun c=>Ok.ret ?_) fun c=>Ok.ret ⟨h3,h3',hy⟩
     have:=hw (by simpa using c)
     exact ⟨this.1,by rw [this.2];exact h3',hy⟩
   ·simp only [Fl.elim]
    exact ⟨⟨by omega,by omega,hj⟩,by omega⟩
  ·have r3:(r.1.length:Int)≤2:=by omega
   exact ⟨hz.1,by show z.1≤8;omega,⟨by show r.1.length≤8;omega,by simp,r2,by simp,by simp⟩,r1',hz.2.2⟩
end Go.Ab
namespace Go.Ab
open Go.Proofs
def c3k (f:x8):Prop:=(f.Slots=1∨f.Slots=2)∧1≤f.Consumers.length∧f.Consumers.length≤8∧∀c∈f.Consumers,0≤c.Pool∧c.Pool≤7
def bOK (dual:Bool) (kn x:Int):Prop:=x=1∨kn=3∧(x=2∨x=3∧dual=true)
def d3t (c:u7) (kn:Int) (u:a0r):Prop:=bOK c.Dual kn u.Stored∧(u.Up=false→u.Used=0)∧(u.Up=true→bOK c.Dual kn u.Used∧(c.Live=true→u.Used=u.Stored))
def a8r (f:x8) (s:l7):Prop:=c3k f∧(s.Known=1∨s.Known=3)∧(s.Valid=1∨s.Known=3∧(s.Valid=2∨s.Valid=3∧f.Slots=2))∧s.Units.length=f.Consumers.length ∧
 ∀k,k<s.Units.length→d3t (f.Consumers.getD k default) s.Known (s.Units.getD k default)
theorem f6g:bits .andNot .i64 1 1=0:=by decide
theorem f6f:bits .andNot .i64 1 3=0:=by decide
theorem f6e:bits .andNot .i64 2 3=0:=by decide
theorem f6d:bits .andNot .i64 3 3=0:=by decide
theorem g0z:bits .or .i64 1 2=3:=by decide
theorem g4e:bits .or .i64 3 2=3:=by decide
theorem f6c:bits .and .i64 1 2=0:=by decide
theorem c4v (x a b:Int):d2k x a b=some (decide (a≤x)&&decide (x≤b)):=rfl
theorem b4v {f:x8} (h:c3k f):d8u f=some true:=by
 obtain ⟨h1,h2,h3,h4⟩:=h
 unfold d8u
 have e1:(decide (1≤f.Slots)&&decide (f.Slots≤2))=true:=a8s.2 (by omega)
 have e2:(decide ((1:Int)≤f.Consumers.length)&&decide ((f.Consumers.length:Int)≤8))=true:=a8s.2 (by omega)
 simp only [c4v,xY,e1,e2,w5,vN]
 rw [a0t (fun _=>(none:Option Bool)) f.Consumers 0 fun k a ha=>?_]
 ·rw [a1m (p:=fun _=>True) (y:=true) fun _ _=>by simp,if_pos (fun _ _=>trivial)];rfl
 ·unfold f9n
  rw [c4v,xY,a8s.2 (h4 a ha)];rfl
theorem c7t {c:u7} {s:l7} {x:Int} (hk:s.Known=1∨s.Known=3) (h:bOK c.Dual s.Known x):d9p c s x=some true:=by
 unfold d9p
 have e1:(decide (1≤x)&&decide (x≤3))=true:=a8s.2 (by rcases h with h|⟨_,h|⟨h,_⟩⟩<;>omega)
 rw [c4v,xY,e1]
 simp only [jn,grp,vP,xY]
 rcases h with rfl|⟨hk,rfl|⟨rfl,hd⟩⟩
 ·rcases hk with hk|hk<;>rw [hk]
  ·rw [f6g];rfl
  ·rw [f6f];rfl
 ·rw [hk,f6e];rfl
 ·rw [hk,f6d,hd];rfl
theorem b4w {f:x8} {s:l7} (h:a8r f s):F_s f s=some true:=by
 obtain ⟨hf,hk,hv,hl,hu⟩:=h
 unfold F_s
 rw [b4v hf,xY]
 have e1:((!decide (s.Known=1))&&(!decide (s.Known=3)))=false:=by rcases hk with hk|hk<;>rw [hk]<;>rfl
 have e2:(decide (1≤s.Valid)&&decide (s.Valid≤3))=true:=a8s.2 (by rcases hv with h|⟨_,h|⟨h,_⟩⟩<;>omega)
 have e3:(!decide ((bits .andNot .i64 s.Valid s.Known)=0)||(decide (s.Valid=3)&&decide (f.Slots=1)))=false:=by
  rcases hv with h|⟨h',h|⟨h,h''⟩⟩
  ·rcases hk with hk|hk<;>rw [h,hk]
   ·rw [f6g];rfl
   ·rw [f6f];rfl
  ·rw [h,h',f6e];rfl
  ·rw [h,h',f6d,h''];rfl
 have e4:(!decide ((s.Units.length:Int)=(f.Consumers.length:Int)))=false:=by rw [hl];simp
 simp only [jn,grp,w5,w6,e1,vN,c4v,xY,e2,e3,e4,Fl.elim]
 refine Ok.eq (Ok.bind (Ok.forI (all:=s.Units) (Q:=fun y=>y=Fl.nx ()) (fun _ _=>True) s.Units [] 0 () rfl rfl trivial (fun pre u q x hw _=>?_) fun _ _=>rfl) fun y hy=>by rw [hy];exact Ok.ret rfl)
 have hp:pre.length<s.Units.length:=by rw [hw];simp
 have hx:s.Units.getD pre.length default=u:=by rw [hw];simp
 obtain ⟨u1,u2,u3⟩:=hu _ hp
 rw [hx] at u1 u2 u3
 unfold g0e
 refine Ok.chk (u6.2 ⟨by omega,by omega⟩) ?_
 rw [xV,c7t hk u1,xY]
 cases hup:u.Up with
 | false =>
  rw [u2 hup]
  exact Ok.ret trivial
 | true =>
  obtain ⟨u4,u5⟩:=u3 hup
  rw [c7t hk u4]
  cases hl2:(f.Consumers.getD pre.length default).Live with
  | false=>exact Ok.ret trivial
  | true=>rw [u5 hl2];simp only [grp,w5,w6,Bool.false_and,vN,vP,xY,Bool.true_and,decide_true];exact Ok.ret trivial
theorem e5y {f:x8} {x:GStep} (hl:1≤f.Consumers.length):Ok (f0b f x) fun y=>y=true→0≤x.Unit∧x.Unit<f.Consumers.length:=by
 unfold f0b
 refine Ok.jn (P:=fun _=>True) ?_ fun j _=>?_
 ·refine Ok.ite (fun _=>Ok.ret trivial) fun _=>Ok.ite (fun _=>Ok.ret trivial) fun _=>Ok.ite (fun _=>Ok.ret trivial) fun _=>Ok.ret trivial
 ·refine Ok.ite (fun _=>Ok.ret fun e=>?_) fun _=>?_
  ·have e:x.Unit=0:=by simpa using e
   omega
  ·refine Ok.jn (P:=fun _=>True) ?_ fun j _=>?_
   ·refine Ok.ite (fun _=>Ok.ret trivial) fun _=>Ok.ite (fun _=>Ok.ret trivial) fun _=>Ok.ite (fun _=>Ok.ret trivial) fun _=>Ok.ret trivial
   ·refine Ok.ite (fun _=>Ok.grp (Ok.ret fun e=>?_)) fun _=>Ok.ret fun e=>by cases e
    simpa using e
theorem b9f {k:Int} (h:k=1∨k=3):(!decide ((bits .and .i64 k 2)=0))=true→k=3:=by
 rcases h with rfl|rfl
 ·rw [f6c];intro h;simp at h
 ·intro _;rfl
theorem e0r {f:x8} {s:l7} (h:a8r f s) {n:Nat} (hn:n<s.Units.length) {u:a0r} (hu:d3t (f.Consumers.getD n default) s.Known u):a8r f ⟨s.Known,s.Valid,s.Units.set n u⟩:=by
 obtain ⟨hf,hk,hv,hl,ho⟩:=h
 refine ⟨hf,hk,hv,by simpa using hl,fun k hk=>?_⟩
 simp only [List.length_set] at hk
 by_cases e:n=k
 ·subst e
  have:(s.Units.set n u).getD n default=u:=by simp [zE,hk]
  rw [this];exact hu
 ·have:(s.Units.set n u).getD k default=s.Units.getD k default:=by simp [zE,xQ,e]
  rw [this];exact ho k hk
theorem c3z {c:u7} {k:Int} {u:a0r} (h:d3t c k u):d3t c 3 u:=by
 have up:∀{x},bOK c.Dual k x→bOK c.Dual 3 x:=fun h=>h.imp id fun h=>⟨rfl,h.2⟩
 exact ⟨up h.1,h.2.1,fun hu=>⟨up (h.2.2 hu).1,(h.2.2 hu).2⟩⟩
theorem g4q {f:x8} {s:l7} {x:GStep} (h:a8r f s) (h0:0≤x.Unit) (h1:x.Unit<f.Consumers.length):Ok (f09 f s x) fun y=>y.2=true→a8r f y.1:=by
 have h':=h
 obtain ⟨hf,hk,hv,hl,ho⟩:=h
 have hn:x.Unit.toNat<s.Units.length:=by omega
 obtain ⟨u1,u2,u3⟩:=ho _ hn
 unfold f09 f1z
 have l8:=hf.2.2.1
 rw [o9 (a0c (by omega)),xY]
 simp only
 refine Ok.chk (u6.2 ⟨h0,by omega⟩) (Ok.chk (u6.2 ⟨h0,h1⟩) ?_)
 generalize hU:s.Units.getD x.Unit.toNat default=U at *
 generalize hC:f.Consumers.getD x.Unit.toNat default=C at *
 obtain ⟨D,hD⟩:∃D:a0r→Prop,D=fun V=>bOK C.Dual s.Known V.Stored∧(V.Up=false→V.Used=0)∧(V.Up=true→C.Live=true∨bOK C.Dual s.Known V.Used):=⟨_,rfl⟩
 refine Ok.jn (P:=fun o:Fl (Bool×a0r) (l7×Bool)=>o.elim (fun j=>j.1=true→D j.2) fun r=>r.2=true→a8r f r.1) ?_ fun o hO=>?_
 ·refine Ok.ite (fun _=>Ok.ret fun e=>?_) fun _=>Ok.ite (fun _=>Ok.grp (Ok.grp (Ok.ret fun e=>?_))) fun _=>Ok.ite (fun _=>Ok.grp (Ok.ret fun e=>?_)) fun _=>Ok.ite (fun _=>Ok.ret fun e=>?_) fun _=>Ok.ite (fun _=>?_) fun _=>Ok.ite (fun _=>Ok.ret fun e=>?_) fun _=>Ok.ite (fun _=>Ok.ret fun e=>?_) fun _=>Ok.ite (fun _=>Ok.ret fun e=>?_) fun _=>Ok.ret fun e=>by cases e
  · -- make
   have hor:bits .or .i64 s.Known 2=3:=by rcases hk with hk|hk<;>rw [hk];exact g0z;exact g4e
   refine ⟨hf,.inr hor,?_,hl,fun k hk=>?_⟩
   ·rcases hv with hv|hv
    ·exact .inl hv
    ·exact .inr ⟨hor,hv.2⟩
   ·simp only [hor];exact c3z (ho k hk)
  · -- enable
   simp only [wF] at e
   obtain ⟨⟨e1,e2⟩,e3⟩:=e
   have e1:=b9f hk e1
   have e2:s.Valid=1:=by simpa using e2
   have e3:f.Slots=2:=by simpa using e3
   refine ⟨hf,hk,.inr ⟨e1,.inr ⟨?_,e3⟩⟩,hl,ho⟩
   simp only [e2];exact g0z
  · -- swap
   simp only [wF] at e
   exact ⟨hf,hk,.inr ⟨b9f hk e.1,.inl rfl⟩,hl,ho⟩
  · -- revoke
   have e:s.Valid=3:=by simpa using e
   refine ⟨hf,hk,.inr ⟨?_,.inl rfl⟩,hl,ho⟩
   rcases hv with hv|hv
   ·omega
   ·exact hv.1
  · -- give
   refine Ok.jn (P:=fun j:Bool=>j=true→s.Known=3) (Ok.ite (fun c=>Ok.ret fun _=>b9f hk c) fun _=>Ok.ret fun e=>by cases e) fun j hj=>?_
   refine Ok.ite (fun c=>Ok.ret fun e=>?_) fun c=>Ok.ret fun e=>?_
   ·rw [hD]
    exact ⟨.inr ⟨hj e,.inr ⟨rfl,c⟩⟩,u2,fun hu=>.inr (u3 hu).1⟩
   ·rw [hD]
    exact ⟨.inr ⟨hj e,.inl rfl⟩,u2,fun hu=>.inr (u3 hu).1⟩
  · -- drop
   have e:U.Stored=3:=by simpa using e
   have hk3:s.Known=3:=by
    rcases u1 with u1|u1
    ·omega
    ·exact u1.1
   rw [hD]
   exact ⟨.inr ⟨hk3,.inl rfl⟩,u2,fun hu=>.inr (u3 hu).1⟩
  · -- stop
   rw [hD]
   exact ⟨u1,fun _=>rfl,fun hu=>by cases hu⟩
  · -- start
   rw [hD]
   exact ⟨u1,fun hu=>(by cases hu),fun _=>.inr u1⟩
 ·cases o with
  | ex r=>exact Ok.ret hO
  | nx j =>
   simp only [Fl.elim] at hO ⊢
   refine Ok.jn (P:=fun V:a0r=>j.1=true→d3t C s.Known V) (Ok.grp (Ok.ite (fun c=>Ok.ret fun e=>?_) fun c=>Ok.ret fun e=>?_)) fun V hV=>Ok.chk (u6.2 ⟨h0,by omega⟩) (Ok.ret fun e=>e0r h' hn (by rw [hC];exact hV e))
   ·have:=hO e
    rw [hD] at this
    simp only [wF] at c
    exact ⟨this.1,fun hu=>(by rw [c.2] at hu;cases hu),fun _=>⟨this.1,fun _=>rfl⟩⟩
   ·have:=hO e
    rw [hD] at this
    refine ⟨this.1,this.2.1,fun hu=>⟨?_,fun hl=>?_⟩⟩
    ·rcases this.2.2 hu with hl|hb
     ·rw [hl,hu] at c;cases c
     ·exact hb
    ·rw [hl,hu] at c;cases c
theorem d8a {f:x8} {s:l7} {x:GStep} (h:a8r f s):Ok (F_g f s x) fun y=>y.2=0→a8r f y.1:=by
 unfold F_g
 rw [b4w h,xY]
 simp only [w5,vN]
 refine Ok.bind (e5y h.1.2.1) fun k hk=>Ok.ite (fun _=>Ok.ret fun e=>by simp at e) fun c=>?_
 have hu:=hk (by simpa using c)
 refine Ok.bind (g4q h hu.1 hu.2) fun y hy=>Ok.ite (fun _=>Ok.ret fun e=>by simp at e) fun c=>Ok.ret fun _=>hy (by simpa using c)
theorem b80 {f:x8} (h:c3k f) (p:Int):F_f f p=some (c0s (fun c:u7=>decide (c.Pool=p)) 0 f.Consumers):=by
 unfold F_f
 rw [b4v h,xY]
 simp only [w5,vN]
 rw [show (0:Int)=((0:Nat):Int) from rfl,a3f (fun c:u7=>decide (c.Pool=p)) 24 (by omega) f.Consumers 0 [] (by have:=h.2.2.1;simp;omega) fun k a x ha hx=>?_]
 ·rfl
 ·unfold f9m
  cases decide (a.Pool=p) with
  | false=>rfl
  | true=>simp only [vP];rw [o9 (a0c (by simp;omega))]
theorem d53 {f:x8} (h:c3k f):Ok (f08 f) fun y=>y.length≤8:=by
 unfold f08
 refine Ok.bind (Ok.loop (Q:=fun y:List Int=>y.length≤8) (fun x=>0≤x.1∧x.1≤8∧(x.2.length:Int)≤x.1) (fun x=>(8 - x.1).toNat) (fun x hx=>?_) _ ⟨by show (0:Int)≤0;omega,by show (0:Int)≤8;omega,by show ((0:Nat):Int)≤0;omega⟩) fun r hr=>Ok.ret hr
 obtain ⟨k,out⟩:=x
 obtain ⟨h1,h2,h3⟩:=hx
 simp only at h1 h2 h3
 unfold f9k
 refine Ok.ite (fun c=>?_) fun c=>Ok.ret (by show out.length≤8;omega)
 have c:k≤7:=by simpa using c
 refine Ok.jn (P:=fun j:List Int=>j.length≤out.length+1) ?_ fun j hj=>Ok.chk (a00 (by simp only;omega) (by simp only;omega)) (Ok.ret ⟨⟨by show 0≤k+1;omega,by show k+1≤8;omega,by show (j.length:Int)≤k+1;omega⟩,by show (8 - (k+1)).toNat<(8 - k).toNat;omega⟩)
 rw [b80 h,xY]
 exact Ok.ite (fun _=>Ok.chk (a0c (by simp;omega)) (Ok.ret (by simp))) fun _=>Ok.ret (by simp)
theorem c8w {f:x8} {s:l7} (h:a8r f s) (u:Int):Ok (e90 f s u) fun _=>True:=by
 unfold e90
 rw [b4w h,xY]
 simp only [vP]
 have:=h.1.2.2.1
 have:=h.2.2.2.1
 refine Ok.chk (a00 (by omega) (by omega)) ?_
 rw [c4v,xY]
 refine Ok.ite (fun c=>?_) fun _=>Ok.ret trivial
 have c:=a8s.1 c
 exact Ok.chk (u6.2 ⟨c.1,by omega⟩) (Ok.ite (fun _=>Ok.chk (u6.2 ⟨c.1,by omega⟩) (Ok.ret trivial)) fun _=>Ok.ret trivial)
theorem b9s {f:x8} {s:l7} (h:a8r f s):Ok (e05 f s) fun y=>y.length≤8:=by
 unfold e05
 refine Ok.bind (d53 h.1) fun ps hp=>Ok.bind (Ok.foldI (all:=ps) (Q:=fun y=>y.length≤8) (fun pre x=>x.length≤pre.length) ps [] 0 [] rfl rfl (by simp) (fun pre x r q hw hq=>?_) fun y hy=>by omega) fun y hy=>Ok.ret hy
 have hl:pre.length<ps.length:=by rw [hw];simp
 unfold f9j
 rw [b80 h.1,xY]
 refine Ok.bind (Ok.for (Q:=fun o:Fl Unit (List Int)=>o.elim (fun _=>True) fun y=>y.length≤q.length+1) (fun _=>True) _ 0 () trivial (fun k a u _ _=>?_) fun _ _=>trivial) fun o ho=>?_
 ·unfold g0d
  exact Ok.bind (c8w h a) fun y _=>Ok.ite (fun _=>Ok.chk (a0c (by simp;omega)) (Ok.ret (by simp [Fl.elim]))) fun _=>Ok.ret trivial
 ·cases o with
  | nx _=>exact Ok.ret (by simp;omega)
  | ex y=>exact Ok.ret (by have:y.length≤q.length+1:=ho;simp;omega)
theorem e0u {f:x8} {s t:l7} (h:a8r f s) (ht:a8r f t):Ok (f07 f s t) fun _=>True:=by
 unfold f07
 refine Ok.bind (b9s ht) fun y _=>Ok.bind (b9s h) fun z _=>Ok.bind (Ok.for (Q:=fun _=>True) (fun _=>True) z 0 () trivial (fun k a u _ _=>?_) fun _ _=>trivial) fun o _=>by cases o<;>exact Ok.ret trivial
 unfold f9i
 refine Ok.bind (Ok.fold (Q:=fun _=>True) (fun _=>True) y 0 false trivial (fun k b x _ _=>Ok.ret trivial) fun _ _=>trivial) fun b _=>Ok.ite (fun _=>Ok.ret trivial) fun _=>Ok.ret trivial
theorem e87 {f:x8} {s:l7} {x:GStep} (h:a8r f s):Ok (e8z f s x) fun y=>y=true→Ok (F_g f s x) fun z=>a8r f z.1:=by
 unfold e8z
 obtain ⟨y,e,hy⟩:=d8a (x:=x) h
 rw [e,xY]
 refine Ok.jn (P:=fun j:Bool=>j=true→y.2=0) ?_ fun j hj=>Ok.ret fun e1=>⟨y,rfl,hy (hj e1)⟩
 refine Ok.ite (fun c=>Ok.bind (e0u h (hy (by simpa using c))) fun _ _=>Ok.ret fun _=>by simpa using c) fun _=>Ok.ret fun e=>by cases e
theorem c7e {f:x8} {s:l7} (h:a8r f s):Ok (f06 f s) fun l=>l.length≤64∧∀x∈l,Ok (F_g f s x) fun z=>a8r f z.1:=by
 have l8:=h.1.2.2.1
 unfold f06
 refine Ok.bind (Ok.loop (Q:=fun l:List GStep=>l.length≤64∧∀x∈l,Ok (F_g f s x) fun z=>a8r f z.1) (fun x=>1≤x.1∧x.1≤9∧(x.2.length:Int)≤8*(x.1 - 1)∧∀y∈x.2,Ok (F_g f s y) fun z=>a8r f z.1) (fun x=>(9 - x.1).toNat) (fun x hx=>?_) _ ⟨by show (1:Int)≤1;omega,by show (1:Int)≤9;omega,by show ((0:Nat):Int)≤8*(1 - 1);omega,by simp⟩) fun r hr=>Ok.ret hr
 obtain ⟨k,out⟩:=x
 obtain ⟨h1,h2,h3,h4⟩:=hx
 simp only at h1 h2 h3 h4
 unfold f9h
 refine Ok.ite (fun c=>?_) fun c=>Ok.ret ⟨by show out.length≤64;omega,h4⟩
 have c:k≤8:=by simpa using c
 refine Ok.bind (Ok.foldI (all:=f.Consumers) (Q:=fun y:List GStep=>y.length≤out.length+8∧∀x∈y,Ok (F_g f s x) fun z=>a8r f z.1) (fun pre y=>y.length≤out.length+pre.length∧∀x∈y,Ok (F_g f s x) fun z=>a8r f z.1) f.Consumers [] 0 out rfl rfl ⟨by simp,h4⟩ (fun pre a r y hw hy=>?_) fun y hy=>⟨by omega,hy.2⟩) fun y hy=>Ok.chk (a00 (by simp only;omega) (by simp only;omega)) (Ok.ret ⟨⟨by show 1≤k+1;omega,by show k+1≤9;omega,by show (y.length:Int)≤8*(k+1 - 1);omega,hy.2⟩,by show (9 - (k+1)).toNat<(9 - k).toNat;omega⟩)
 have hp:pre.length<f.Consumers.length:=by rw [hw];simp
 unfold g0c
 refine Ok.bind (e87 h) fun b hb=>Ok.ite (fun c=>Ok.chk (a0c (by simp;omega)) (Ok.ret ⟨by simp;omega,fun x hx=>?_⟩)) fun _=>Ok.ret ⟨by simp;omega,hy.2⟩
 simp only [wM,xG] at hx
 rcases hx with hx|rfl
 ·exact hy.2 x hx
 ·exact hb c
theorem d42 {f:x8} (h:c3k f):Ok (e9v f) fun y=>a8r f y.1:=by
 unfold e9v
 rw [b4v h,xY]
 simp only [w5,vN]
 have l8:=h.2.2.1
 refine Ok.bind (Ok.foldI (all:=f.Consumers) (Q:=fun y:List a0r=>y.length=f.Consumers.length∧∀u∈y,u=⟨true,1,1⟩) (fun pre y=>y.length=pre.length∧∀u∈y,u=⟨true,1,1⟩) f.Consumers [] 0 [] rfl rfl ⟨rfl,by simp⟩ (fun pre a r y hw hy=>?_) fun y hy=>hy) fun y hy=>Ok.ret ⟨h,.inl rfl,.inl rfl,hy.1,fun k hk=>?_⟩
 ·have hp:pre.length<f.Consumers.length:=by rw [hw];simp
  unfold f9l
  refine Ok.chk (a0c (by simp;omega)) (Ok.ret ⟨by simp;omega,fun u hu=>?_⟩)
  simp only [wM,xG] at hu
  rcases hu with hu|rfl
  ·exact hy.2 u hu
  ·rfl
 ·have hm:y.getD k default∈y:=by
   have hk:k<y.length:=hk
   simp [zE,hk]
  show d3t _ 1 (y.getD k default)
  rw [hy.2 _ hm]
  exact ⟨.inl rfl,fun hu=>(by cases hu),fun _=>⟨.inl rfl,fun _=>rfl⟩⟩
theorem d6z {t:w9} {f:x8} (h:TOK t) (hf:c3k f):Ok (e9u t f) fun y=>a8r f y.1∧TOK y.2:=by
 unfold e9u
 refine Ok.bind (d42 hf) fun y hy=>Ok.bind (a0a h (by omega)) fun z hz=>Ok.bind (Ok.loop (Q:=fun r:Sum (l7×w9) (l7×w9)=>Sum.elim (fun u=>a8r f u.1∧TOK u.2) (fun u=>a8r f u.1∧TOK u.2) r) (fun x=>0≤x.1∧x.1≤16∧a8r f x.2.1∧TOK x.2.2) (fun x=>x.1.toNat) (fun x hx=>?_) _ ⟨hz.1,by show z.1≤16;omega,hy,hz.2.2⟩) fun r hr=>by cases r<;>exact Ok.ret hr
 obtain ⟨k,s,t⟩:=x
 obtain ⟨h1,h2,h3,h4⟩:=hx
 simp only at h1 h2 h3 h4
 unfold f9e
 refine Ok.ite (fun c=>?_) fun c=>Ok.ret ⟨h3,h4⟩
 have c:0<k:=by simpa using c
 refine Ok.bind (c7e h3) fun l hl=>Ok.ite (fun _=>Ok.ret ⟨h3,h4⟩) fun c1=>?_
 have c1:¬(l.length:Int)=0:=by simpa using c1
 refine Ok.bind (a0a h4 (by omega)) fun i hi=>Ok.chk (u6.2 ⟨hi.1,hi.2.1⟩) ?_
 have hm:l.getD i.1.toNat default∈l:=by
  have:i.1.toNat<l.length:=by have:=hi.1;have:=hi.2.1;omega
  simp [zE,this]
 refine Ok.bind (hl.2 _ hm) fun w hw=>Ok.chk (a00 (by simp only;omega) (by simp only;omega)) (Ok.ret ⟨⟨by show 0≤k - 1;omega,by show k - 1≤16;omega,hw,hi.2.2⟩,by show (k - 1).toNat<k.toNat;omega⟩)
theorem d1f {t:w9} (h:TOK t):Ok (f05 t 3) fun y=>c3k y.1∧TOK y.2:=by
 unfold f05
 refine Ok.bind (a18 h (by omega) (by omega) (by omega)) fun a ha=>Ok.bind (a18 ha.2.2 (by omega) (by omega) (by omega)) fun b hb=>Ok.bind (Ok.loop (Q:=fun r:Int×List u7×w9=>c3k ⟨r.1,r.2.1⟩∧TOK r.2.2) (fun x=>0≤x.1∧(x.2.2.1.length:Int)+x.1≤3∧1≤(x.2.2.1.length:Int)+x.1∧x.2.1=a.1∧(∀c∈x.2.2.1,0≤c.Pool∧c.Pool≤7)∧TOK x.2.2.2) (fun x=>x.1.toNat) (fun x hx=>?_) _ ⟨by show 0≤b.1;omega,by show ((0:Nat):Int)+b.1≤3;omega,by show 1≤((0:Nat):Int)+b.1;omega,rfl,by simp,hb.2.2⟩) fun r hr=>Ok.ret hr
 obtain ⟨k,sl,out,t⟩:=x
 obtain ⟨h1,h2,h3,h4,h5,h6⟩:=hx
 simp only at h1 h2 h3 h4 h5 h6
 unfold f9f
 refine Ok.ite (fun c=>?_) fun c=>Ok.ret ⟨?_,h6⟩
 case refine_2 =>
  have c:¬0<k:=by simpa using c
  exact ⟨by show sl=1∨sl=2;omega,by show 1≤out.length;omega,by show out.length≤8;omega,h5⟩
 have c:0<k:=by simpa using c
 refine Ok.bind (a0a h6 (by omega)) fun p hp=>Ok.bind (a0a hp.2.2 (by omega)) fun q hq=>Ok.bind (a0a hq.2.2 (by omega)) fun r hr=>Ok.chk (a0c (by simp;omega)) (Ok.chk (a00 (by simp only;omega) (by simp only;omega)) (Ok.ret ⟨⟨by show 0≤k - 1;omega,by simp;omega,by simp;omega,h4,fun c hc=>?_,hr.2.2⟩,by show (k - 1).toNat<k.toNat;omega⟩))
 simp only [wM,xG] at hc
 rcases hc with hc|rfl
 ·exact h5 c hc
 ·exact ⟨hp.1,by show p.1≤7;have:=hp.2.1;omega⟩
theorem e6j {t:w9} (h:TOK t):Ok (F_u t 3) fun y=>c3k y.1∧TOK y.2:=by
 unfold F_u
 refine Ok.bind (d1f h) fun y hy=>Ok.bind (Ok.foldI (all:=y.1.Consumers) (Q:=fun l:List u7=>c3k ⟨y.1.Slots,l⟩) (fun pre l=>c3k ⟨y.1.Slots,l⟩∧l.length=y.1.Consumers.length) y.1.Consumers [] 0 _ rfl rfl ⟨hy.1,rfl⟩ (fun pre a r l hw hl=>?_) fun l hl=>hl.1) fun l hl=>Ok.ret ⟨hl,hy.2⟩
 obtain ⟨hf,hl⟩:=hl
 have hp:pre.length<l.length:=by rw [hl,hw];simp
 have hi:inb (pre.length:Int) l.length=true:=u6.2 ⟨by omega,by omega⟩
 have set1:∀c:u7,0≤c.Pool∧c.Pool≤7→c3k ⟨y.1.Slots,l.set pre.length c⟩∧(l.set pre.length c).length=y.1.Consumers.length:=fun c hc =>
  ⟨⟨hf.1,by simpa using hf.2.1,by simpa using hf.2.2.1,fun d hd=>by
   rcases List.mem_or_eq_of_mem_set hd with hd|rfl
   ·exact hf.2.2.2 d hd
   ·exact hc⟩,by simpa using hl⟩
 have hpl:0≤(l.getD pre.length default).Pool∧(l.getD pre.length default).Pool≤7:=hf.2.2.2 _ (by simp [zE,hp])
 unfold g0o
 simp only [xV,List.length_set]
 refine Ok.chk hi ?_
 rw [b80 hf,xY]
 refine Ok.ite (fun _=>Ok.chk hi (Ok.chk hi (Ok.ite (fun _=>Ok.chk hi (Ok.ret (set1 _ hpl))) fun _=>Ok.chk hi (Ok.ret (set1 _ hpl))))) fun _=>Ok.ret ⟨hf,hl⟩
end Go.Ab
namespace Go.Ab
open Go.Proofs
theorem c0t {α:Type} {body:Int→α→Unit→Option (Fl Unit Int)} (p:α→Bool):∀(xs:List α) (k:Int),0≤k→(∀k a,a∈xs→body k a ()=some (bif p a then .ex k else .nx ())) →
  (xs.any p=false→a0x body xs k ()=some (.nx ()))∧(xs.any p=true→∃i,0≤i∧a0x body xs k ()=some (.ex i))
 | [],k,hk,h=>⟨fun _=>rfl,fun e=>by simp at e⟩
 | x::r,k,hk,h=>by
  simp only [a0x,h k x (by simp),xY,List.any_cons]
  cases hp:p x with
  | true=>exact ⟨fun e=>by simp at e,fun _=>⟨k,hk,rfl⟩⟩
  | false =>
   simp only [vN,w6]
   exact c0t p r (k+1) (by omega) fun k a ha=>h k a (by simp [ha])
theorem a3v {α:Type} {body:Int→α→Unit→Option (Fl Unit Int)} (p:α→Bool) (xs:List α) (h:∀k a,a∈xs→body k a ()=some (bif p a then .ex k else .nx ())) :
  (((a0x body xs 0 ()).bind fun o=>o.elim (fun _=>some (-1)) (fun r=>some r)).bind fun y:Int=>some (decide (0≤y)))=some (xs.any p):=by
 obtain ⟨h1,h2⟩:=c0t p xs 0 (vM 0) h
 cases he:xs.any p with
 | false=>rw [h1 he];rfl
 | true =>
  obtain ⟨i,hi,e⟩:=h2 he
  rw [e]
  simp only [xY,Fl.elim]
  rw [wU hi]
def b4m (c:l9):Prop:=(1≤c.Replicas.length∧c.Replicas.length≤5)∧(1≤c.Sets.length∧c.Sets.length≤121)∧c.Snapshots.length≤120∧(∀s∈c.Sets,0≤s∧s≤3) ∧
 (∀r∈c.Replicas,0≤r.Generation∧r.Generation≤(c.Sets.length:Int) - 1)∧∀g∈c.Snapshots,0≤g∧g≤(c.Sets.length:Int) - 1
theorem b1b (x a b:Int):F_4 x a b=some (decide (a≤x)&&decide (x≤b)):=rfl
theorem d54 (x a b:Int):d8k x a b=some (decide (a≤x)&&decide (x≤b)):=rfl
theorem b4u {c:l9} (h:b4m c):F_b c=some true:=by
 obtain ⟨h1,h2,h3,h4,h5,h6⟩:=h
 have e1:(decide ((1:Int)≤c.Replicas.length)&&decide ((c.Replicas.length:Int)≤5))=true:=a8s.2 (by omega)
 have e2:(decide ((1:Int)≤c.Sets.length)&&decide ((c.Sets.length:Int)≤121))=true:=a8s.2 (by omega)
 have e3:decide ((120:Int)<c.Snapshots.length)=false:=by simp;omega
 unfold F_b
 simp only [jn,grp,b1b,xY,e1,e2,e3,w5,vN,Bool.or_false,Fl.elim]
 rw [a0t (fun _=>(none:Option Bool)) c.Sets 0 fun k a ha=>?_]
 ·rw [a1m (p:=fun _=>True) (y:=true) fun _ _=>by simp,if_pos (fun _ _=>trivial),xY]
  simp only [flO]
  rw [a0t (fun _=>(none:Option Bool)) c.Replicas 0 fun k a ha=>?_]
  ·rw [a1m (p:=fun _=>True) (y:=true) fun _ _=>by simp,if_pos (fun _ _=>trivial),xY]
   simp only [flO]
   rw [a0t (fun _=>(none:Option Bool)) c.Snapshots 0 fun k a ha=>?_]
   ·rw [a1m (p:=fun _=>True) (y:=true) fun _ _=>by simp,if_pos (fun _ _=>trivial)];rfl
   ·unfold g0b
    rw [o9 (a00 (by omega) (by omega)),b1b,xY,a8s.2 (h6 a ha)];rfl
  ·unfold g0p
   rw [o9 (a00 (by omega) (by omega)),b1b,xY,a8s.2 (h5 a ha)];rfl
 ·unfold g0v
  rw [b1b,xY,a8s.2 (h4 a ha)];rfl
theorem b0n {α:Type} [Inhabited α] {l:List α} {i:Nat} (h:i<l.length):l.getD i default∈l:=by simp [zE,h]
theorem d89 {c:l9} {x:a06} (h:b4m c):Ok (F_t c x) fun y=>y.2=0→b4m y.1:=by
 have h':=h
 obtain ⟨h1,h2,h3,h4,h5,h6⟩:=h
 unfold F_t
 rw [b4u h',xY]
 simp only [w5,vN]
 unfold f1y
 rw [o9 (a0c (by omega)),o9 (a0c (by omega)),o9 (a0c (by omega)),xY]
 simp only
 have err:∀{α β:Type} {e:Int} (he:e≠0) {P:α→Prop},Ok (some (Fl.ex (l9.mk false [] [] [],e):Fl α (l9×Int))) fun o=>o.elim P fun r=>r.2=0→b4m r.1:=fun {α β e} he {P}=>Ok.ret fun h0=>absurd h0 he
 refine Ok.jn (P:=fun o:Fl a06 (l9×Int)=>o.elim (fun _=>True) fun r=>r.2=0→b4m r.1) ?_ fun o ho=>?_
 ·refine Ok.ite (fun _=>?_) fun _=>?_
  ·refine Ok.ite (fun _=>err (β:=Unit) (by decide)) fun _=>?_
   rw [b1b,xY]
   refine Ok.ite (fun _=>err (β:=Unit) (by decide)) fun c1=>Ok.ite (fun _=>err (β:=Unit) (by decide)) fun c2=>Ok.chk (a0c (by simp;omega)) (Ok.ret fun _=>?_)
   have c1:0≤x.Bits∧x.Bits≤3:=a8s.1 (by simpa using c1)
   have c2:¬(120:Int)<c.Sets.length:=by simpa using c2
   refine ⟨h1,⟨by simp,by simp;omega⟩,h3,fun s hs=>?_,fun r hr=>?_,fun g hg=>?_⟩
   ·simp only [wM,xG] at hs
    rcases hs with hs|rfl
    ·exact h4 s hs
    ·exact c1
   ·have:=h5 r hr;simp;omega
   ·have:=h6 g hg;simp;omega
  ·refine Ok.jn (P:=fun _=>True) (Ok.ite (fun _=>Ok.ret trivial) fun _=>Ok.ret trivial) fun j _=>Ok.ite (fun _=>Ok.ret trivial) fun _=>Ok.ite (fun _=>Ok.ret trivial) fun _=>Ok.ret trivial
 ·cases o with
  | ex r=>exact Ok.ret ho
  | nx j =>
   simp only [Fl.elim]
   refine Ok.jn (P:=fun o:Fl Unit (l9×Int)=>o.elim (fun _=>(2≤x.Kind∧x.Kind≤4)∧(0≤x.Replica∧x.Replica≤(c.Replicas.length:Int) - 1)∧(x.Kind=4→0≤x.Snapshot∧x.Snapshot≤(c.Snapshots.length:Int) - 1)) fun r=>r.2=0→b4m r.1) ?_ fun o ho=>?_
   ·refine Ok.ite (fun _=>err (β:=Unit) (by decide)) fun _=>?_
    rw [b1b,xY]
    refine Ok.ite (fun _=>err (β:=Unit) (by decide)) fun c1=>Ok.chk (a00 (by omega) (by omega)) ?_
    have c1:2≤x.Kind∧x.Kind≤4:=a8s.1 (by simpa using c1)
    rw [b1b,xY]
    refine Ok.ite (fun _=>err (β:=Unit) (by decide)) fun c2=>?_
    have c2:=a8s.1 (by simpa using c2)
    refine Ok.ite (fun c3=>Ok.chk (a00 (by omega) (by omega)) ?_) fun c3=>Ok.ret ⟨c1,c2,fun e=>by rw [e] at c3;simp at c3⟩
    rw [b1b,xY]
    refine Ok.ite (fun _=>err (β:=Unit) (by decide)) fun c4=>Ok.ret ⟨c1,c2,fun _=>a8s.1 (by simpa using c4)⟩
   ·cases o with
    | ex r=>exact Ok.ret ho
    | nx u =>
     obtain ⟨k1,k2,k3⟩:=ho
     simp only
     have hr:x.Replica.toNat<c.Replicas.length:=by omega
     refine Ok.chk (u6.2 ⟨k2.1,by omega⟩) (Ok.jn (P:=fun o:Fl (Bool×List p8×List Int) (l9×Int)=>o.elim (fun j=>b4m ⟨j.1,c.Sets,j.2.1,j.2.2⟩) fun r=>r.2=0→b4m r.1) ?_ fun o ho=>by cases o with|nx j=>exact Ok.ret fun _=>ho|ex r=>exact Ok.ret ho)
     have setR:∀(b:Bool) (q:p8),0≤q.Generation∧q.Generation≤(c.Sets.length:Int) - 1→b4m ⟨b,c.Sets,c.Replicas.set x.Replica.toNat q,c.Snapshots⟩:=fun b q hq=>by
      refine ⟨by simpa using h1,h2,h3,h4,fun r hr=>?_,h6⟩
      rcases List.mem_or_eq_of_mem_set hr with hr|rfl
      ·exact h5 r hr
      ·exact hq
     refine Ok.ite (fun c1=>Ok.chk (a00 (by omega) (by omega)) (Ok.ret (setR _ _ ⟨by show (0:Int)≤(c.Sets.length:Int) - 1;omega,vM _⟩))) fun c1=>Ok.ite (fun c2=>?_) fun c2=>?_
     ·refine Ok.ite (fun _=>err (β:=Unit) (by decide)) fun c3=>Ok.chk (a0c (by simp;omega)) (Ok.ret ⟨h1,h2,?_,h4,h5,fun g hg=>?_⟩)
      ·have c3:¬(120:Int)≤c.Snapshots.length:=by simpa using c3
       simp;omega
      ·simp only [wM,xG] at hg
       rcases hg with hg|rfl
       ·exact h6 g hg
       ·exact h5 _ (b0n hr)
     ·have c1:¬x.Kind=2:=by simpa using c1
      have c2:¬x.Kind=3:=by simpa using c2
      have:=k3 (by omega)
      exact Ok.chk (u6.2 ⟨this.1,by omega⟩) (Ok.ret (setR _ _ (h6 _ (b0n (by omega)))))
theorem d1l {t:w9} {c:l9} (h:TOK t) (hc:b4m c):Ok (e8y t c) fun y=>TOK y.2:=by
 obtain ⟨h1,h2,h3,_⟩:=hc
 unfold e8y
 refine Ok.bind (a18 h (by omega) (by omega) (by omega)) fun y hy=>Ok.ite (fun _=>Ok.bind (b1d hy.2.2 (by simp)) fun z hz=>Ok.ret hz.2) fun _=>Ok.ite (fun _=>Ok.bind (a0a hy.2.2 (by omega)) fun z hz=>Ok.chk (a00 (by omega) (by omega)) (Ok.bind (a0a hz.2.2 (by omega)) fun w hw=>Ok.ret hw.2.2)) fun _=>Ok.bind (a0a hy.2.2 (by omega)) fun z hz=>Ok.ret hz.2.2
theorem c2w {t:w9} (h:TOK t):Ok (f04 t) fun y=>b4m y.1∧TOK y.2:=by
 unfold f04
 refine Ok.bind (a18 h (by omega) (by omega) (by omega)) fun a ha=>Ok.bind (b1d ha.2.2 (by simp)) fun b hb=>Ok.bind (a0a hb.2 (by omega)) fun d hd=>Ok.bind (P:=fun y:l9×Int=>b4m y.1) ?_ fun y hy=>Ok.bind (a0a hd.2.2 (by omega)) fun e he=>Ok.bind (Ok.loop (Q:=fun r:l9×w9=>b4m r.1∧TOK r.2) (fun x=>0≤x.1∧x.1≤12∧b4m x.2.1∧TOK x.2.2) (fun x=>x.1.toNat) (fun x hx=>?_) _ ⟨he.1,by show e.1≤12;omega,hy,he.2.2⟩) fun r hr=>Ok.ret hr
 ·have hb0:0≤b.1∧b.1≤3:=by have:=hb.1;simp only [wZ,List.not_mem_nil,or_false] at this;omega
  unfold f3b
  rw [b1b,xY,a8s.2 (by omega),b1b]
  simp only [w5,vN,xY]
  rw [a8s.2 hb0]
  simp only [w5,vN]
  refine Ok.bind (Ok.loop (Q:=fun r:Bool×List p8=>(r.2.length:Int)=a.1∧∀q∈r.2,q=⟨0,true⟩) (fun x=>x.1=x.2.2.length∧x.1≤a.1∧∀q∈x.2.2,q=⟨0,true⟩) (fun x=>(a.1 - x.1).toNat) (fun x hx=>?_) _ ⟨rfl,by show (0:Int)≤a.1;omega,by simp⟩) fun r hr=>Ok.ret ⟨⟨by show 1≤r.2.length;omega,by show r.2.length≤5;omega⟩,⟨by simp,by simp⟩,by simp,fun s hs=>(by simp only [xG] at hs;subst hs;exact hb0),fun q hq=>(by rw [hr.2 q hq];simp),by simp⟩
  obtain ⟨k,f,out⟩:=x
  obtain ⟨q1,q2,q3⟩:=hx
  simp only at q1 q2 q3
  unfold f9g
  refine Ok.ite (fun c=>?_) fun c=>Ok.ret ⟨?_,q3⟩
  ·have c:k<a.1:=by simpa using c
   refine Ok.chk (a0c (by simp;omega)) (Ok.chk (a00 (by simp only;omega) (by simp only;omega)) (Ok.ret ⟨⟨by simp;omega,by show k+1≤a.1;omega,fun q hq=>?_⟩,by show (a.1 - (k+1)).toNat<(a.1 - k).toNat;omega⟩))
   simp only [wM,xG] at hq
   exact hq.elim (q3 q) id
  ·have c:¬k<a.1:=by simpa using c
   show (out.length:Int)=a.1;omega
 ·obtain ⟨k,c,t⟩:=x
  obtain ⟨q1,q2,q3,q4⟩:=hx
  simp only at q1 q2 q3 q4
  unfold f9d
  refine Ok.ite (fun hk=>?_) fun _=>Ok.ret ⟨q3,q4⟩
  have hk:0<k:=by simpa using hk
  refine Ok.jn (P:=fun j:l9×w9=>b4m j.1∧TOK j.2) (Ok.bind (d1l q4 q3) fun y hy=>Ok.bind (d89 q3) fun z hz=>Ok.ite (fun c=>Ok.ret ⟨hz (by simpa using c),hy⟩) fun _=>Ok.ret ⟨q3,hy⟩) fun j hj=>Ok.chk (a00 (by simp only;omega) (by simp only;omega)) (Ok.ret ⟨⟨by show 0≤k - 1;omega,by show k - 1≤12;omega,hj⟩,by show (k - 1).toNat<k.toNat;omega⟩)
theorem c06 {c:l9} (h:b4m c):d9g c=some 0:=by
 obtain ⟨h1,h2,h3,h4,h5,h6⟩:=h
 have e1:(decide ((1:Int)≤c.Replicas.length)&&decide ((c.Replicas.length:Int)≤5))=true:=a8s.2 (by omega)
 have e2:(decide ((1:Int)≤c.Sets.length)&&decide ((c.Sets.length:Int)≤121))=true:=a8s.2 (by omega)
 have e3:decide ((120:Int)<c.Snapshots.length)=false:=by simp;omega
 have a1:d9k c.Sets=some false:=by
  unfold d9k f1d
  rw [a3v (fun _=>false) c.Sets fun k a ha=>?_]
  ·simp
  ·unfold f8g f1e
   rw [d54,xY,a8s.2 (h4 a ha)];rfl
 have one:∀g,0≤g∧g≤(c.Sets.length:Int) - 1→d9j g c=some false:=fun g hg=>by
  unfold d9j
  rw [o9 (a00 (by omega) (by omega)),d54,xY,a8s.2 hg];rfl
 have a2:d9i c.Snapshots c=some false:=by
  unfold d9i f2x
  rw [a3v (fun _=>false) c.Snapshots fun k a ha=>?_]
  ·simp
  ·unfold f8f
   rw [one a (h6 a ha)];rfl
 have a3:d9h c.Replicas c=some false:=by
  unfold d9h f2w
  rw [a3v (fun _=>false) c.Replicas fun k a ha=>?_]
  ·simp
  ·unfold f8e f1c
   rw [one a.Generation (h5 a ha)];rfl
 unfold d9g
 simp only [d54,xY,e1,e2,e3,grp,w5,vN,Bool.or_false,a1,a2,a3]
def hasB (c:l9) (g bit:Int):Bool:=!decide (bits .and .i64 (c.Sets.getD g.toNat default) bit=0)
def c3r (c:l9) (bit:Int) (r:p8):Bool:=r.Serving&&hasB c r.Generation bit
def c77 (c:l9) (bit:Int):Bool:=!hasB c ((c.Sets.length:Int) - 1) bit&&!c.Replicas.any (c3r c bit)
theorem e6f {c:l9} {g:Int} (hg:0≤g∧g≤(c.Sets.length:Int) - 1) (bit:Int):d9f c g bit=some (hasB c g bit):=by
 unfold d9f
 rw [o9 (u6.2 ⟨hg.1,by omega⟩)];rfl
theorem d56 {c:l9} (h:b4m c) {bit:Int} (hb:bit=1∨bit=2):e8d c bit=some (c77 c bit):=by
 have hc:=c06 h
 obtain ⟨h1,h2,h3,h4,h5,h6⟩:=h
 have hs:e8e c bit=some (c.Replicas.any (c3r c bit)):=by
  unfold e8e f0x f2u
  rw [a3v (c3r c bit) c.Replicas fun k a ha=>?_]
  ·rfl
  ·unfold f8d f0y f0z
   rw [e6f (h5 a ha)]
   unfold c3r
   cases a.Serving with
   | false=>rfl
   | true=>cases hasB c a.Generation bit<;>rfl
 unfold e8d f1b
 have e:(decide (bit=1)||decide (bit=2))=true:=by simpa using hb
 rw [hc,xY,e6f ⟨by omega,vM _⟩,hs]
 simp only [decide_true,vP,grp,e,xY,jn,o9 (a00 (n:=(c.Sets.length:Int) - 1) (by omega) (by omega))]
 unfold c77
 cases hasB c ((c.Sets.length:Int) - 1) bit<;>rfl
theorem c9t {f:x8} (h:c3k f):e8i f=some 0:=by
 obtain ⟨h1,h2,h3,h4⟩:=h
 have a1:e8j f.Consumers=some false:=by
  unfold e8j f1f
  rw [a3v (fun _=>false) f.Consumers fun k a ha=>?_]
  ·simp
  ·unfold f8h f1g
   have:=h4 a ha
   have e:(decide (a.Pool<0)||decide (7<a.Pool))=false:=by simp;omega
   simp only [grp,e,xY];rfl
 unfold e8i
 have e1:(((!decide (f.Slots=1))&&(!decide (f.Slots=2))||decide ((f.Consumers.length:Int)<1))||decide ((8:Int)<f.Consumers.length))=false:=by simp;omega
 simp only [grp,e1,vN,a1,xY]
theorem b57 {dual:Bool} {kn x:Int} (hk:kn=1∨kn=3) (h:bOK dual kn x):d3l x kn dual=some true:=by
 unfold d3l
 have e1:(decide (0<x)&&decide (x≤3))=true:=by simp;rcases h with h|⟨_,h|⟨h,_⟩⟩<;>omega
 simp only [jn,grp,e1,vP,xY]
 rcases h with rfl|⟨hk,rfl|⟨rfl,hd⟩⟩
 ·rcases hk with hk|hk<;>rw [hk]
  ·rw [f6g];cases dual<;>rfl
  ·rw [f6f];cases dual<;>rfl
 ·rw [hk,f6e];cases dual<;>rfl
 ·rw [hk,f6d,hd];rfl
theorem c9o {c:u7} {u:a0r} {kn:Int} (hk:kn=1∨kn=3) (h:d3t c kn u):e8h c u kn=some true:=by
 obtain ⟨u1,u2,u3⟩:=h
 unfold e8h
 rw [b57 hk u1,xY]
 cases hup:u.Up with
 | false=>rw [u2 hup];rfl
 | true =>
  obtain ⟨u4,u5⟩:=u3 hup
  rw [b57 hk u4]
  simp only [w5,vN,xY,grp,Bool.true_and]
  cases hl:c.Live with
  | false=>rfl
  | true=>rw [u5 hl];simp
theorem c04 {f:x8} {s:l7} (h:a8r f s):e03 f s=some true:=by
 obtain ⟨hf,hk,hv,hl,hu⟩:=h
 unfold e03
 have e1:((!decide (s.Known=1))&&(!decide (s.Known=3)))=false:=by rcases hk with hk|hk<;>rw [hk]<;>rfl
 have e2:d3l s.Valid s.Known (decide (f.Slots=2))=some true:=b57 hk (hv.imp id fun h=>⟨h.1,h.2.imp id fun h=>⟨h.1,wU h.2⟩⟩)
 have e4:(!decide ((s.Units.length:Int)=(f.Consumers.length:Int)))=false:=by rw [hl];simp
 rw [c9t hf,xY,e2]
 simp only [jn,grp,decide_true,w5,w6,e1,vN,xY,e4,Fl.elim]
 refine Ok.eq (Ok.bind (Ok.forI (all:=s.Units) (Q:=fun y=>y=Fl.nx ()) (fun _ _=>True) s.Units [] 0 () rfl rfl trivial (fun pre u q x hw _=>?_) fun _ _=>rfl) fun y hy=>by rw [hy];exact Ok.ret rfl)
 have hp:pre.length<s.Units.length:=by rw [hw];simp
 have hx:s.Units.getD pre.length default=u:=by rw [hw];simp
 have:=hu _ hp
 rw [hx] at this
 unfold g01
 refine Ok.chk (u6.2 ⟨by omega,by omega⟩) ?_
 rw [xV,c9o hk this]
 exact Ok.ret trivial
def b5u (u:a0r):Bool:=(u.Up==true)&&(decide (u.Stored=2)&&decide (u.Used=2))
theorem c9s {f:x8} {s:l7} (h:a8r f s):e8f f s=some (decide (s.Valid=2)&&s.Units.all b5u):=by
 unfold e8f
 rw [c04 h,xY]
 have a1:e8g s.Units ⟨true,2,2⟩=some (s.Units.any fun u=>!b5u u):=by
  unfold e8g f2v
  rw [a3v (fun u=>!b5u u) s.Units fun k a ha=>?_]
  show (bif !b5u a then some (Fl.ex k) else some (Fl.nx ()))=_
  cases b5u a<;>rfl
 rw [a1]
 have e:s.Units.all b5u=!s.Units.any fun u=>!b5u u:=by
  generalize s.Units=l
  induction l with
  | nil=>rfl
  | cons a r ih=>simp only [List.all_cons,List.any_cons,ih];cases b5u a<;>rfl
 rw [e]
 simp only [grp,jn,Bool.true_and]
 cases decide (s.Valid=2)<;>rfl
theorem c5f {r:o5} {c:o7} (h:r.Issuers.length≤8):f1t r c=some (decide (d3c r.Issuers.length c)):=b3s r c h
theorem d00 {s:Str} (h:d98 s):a6l s 40=true:=by
 obtain ⟨h1,h2,h3⟩:=h
 unfold a6l letters
 simp only [wF,wE,xN]
 exact ⟨h3,by omega,by omega⟩
theorem c9r (r:o5) (i h t:Int) (hn:r.Credentials.length≤24):e9p r i h t=some (f5n r.Credentials i h t):=by
 unfold e9p
 rw [show (0:Int)=((0:Nat):Int) from rfl,a3f (hdB i h t) 24 (by omega) r.Credentials 0 [] (by simpa using hn) fun k a x ha hx=>?_]
 ·rfl
 ·unfold f8w f1r
  simp only [grp,hdB,jn,xY]
  cases (decide (a.Issuer=i)&&decide (a.Holder=h)) with
  | false=>rfl
  | true =>
   simp only [vP,xY,Bool.true_and]
   cases (decide (a.From≤t)&&decide (t<a.Until)) with
   | false=>rfl
   | true=>simp only [vP];rw [o9 (a0c (by simp;omega))]
theorem c07 {r:o5} (h:a7a r):d9u r=some 0:=by
 obtain ⟨h1,h2,h3,h4,h5⟩:=h
 have a1:e8q r.Issuers=some false:=by
  unfold e8q f1u
  rw [a3v (fun _=>false) r.Issuers fun k a ha=>?_]
  ·simp
  ·unfold f8y f1v c0f
   rw [d00 (h3 a ha).1,xY,e1j,a8s.2 (h3 a ha).2];rfl
 have a2:e8p r.Credentials r=some false:=by
  unfold e8p f2z
  rw [a3v (fun _=>false) r.Credentials fun k a ha=>?_]
  ·simp
  ·unfold f8x f1s
   rw [c5f h1,xY,wU (h4 a ha)];rfl
 unfold d9u
 have e:(decide ((8:Int)<r.Issuers.length)||decide ((24:Int)<r.Credentials.length))=false:=by simp;omega
 simp only [grp,e,vN,a1,a2,xY]
 rw [a0t (fun _=>(none:Option Int)) r.Credentials 0 fun k a ha=>?_]
 ·rw [a1m (p:=fun _=>True) (y:=(0:Int)) fun _ _=>by simp,if_pos (fun _ _=>trivial)];rfl
 ·unfold f8v
  obtain ⟨q1,q2,_⟩:=h4 a ha
  have:=h5 a ha
  unfold crR at this
  rw [c9r r _ _ _ h2,xY,o9 (u6.2 ⟨q1,q2⟩),wH (by omega)];rfl
def finds (r:o5) (fp:Int):List Int:=c0s (fun c:o7=>decide (c.Fingerprint=fp)) 0 r.Credentials
theorem d55 {r:o5} (h:a7a r) (fp:Int):e9o r fp=some (finds r fp):=by
 unfold e9o
 rw [c07 h,xY]
 simp only [decide_true,w5,vN]
 rw [show (0:Int)=((0:Nat):Int) from rfl,a3f (fun c:o7=>decide (c.Fingerprint=fp)) 24 (by omega) r.Credentials 0 [] (by have:=h.2.1;simpa using this) fun k a x ha hx=>?_]
 ·rfl
 ·unfold f8r
  cases decide (a.Fingerprint=fp) with
  | false=>rfl
  | true=>simp only [vP];rw [o9 (a0c (by simp;omega))]
theorem b1n {r:o5} (h:a7a r) {fp i:Int} (hi:i∈finds r fp):0≤i∧i<24:=by
 obtain ⟨j,h1,h2,_⟩:=c0k.1 hi
 have:=h.2.1
 omega
end Go.Ab
namespace Go.Ab
open Go.Proofs
def tl1 (s:o6) (x:z8):o6:=o6.mk s.Fingerprint s.Spots (s.Public||decide (x.Principal=-1)) (if x.Principal=-1 then s.Readers else s.Readers+1) (if s.Since=-1∨x.Time<s.Since then x.Time else s.Since) s.Severity s.Rotated s.Dead
theorem e0g {s:o6} {x:z8} (k:Int) (h:0≤s.Readers∧s.Readers≤1000):e94 k x s=some (tl1 s x):=by
 unfold e94 tl1
 by_cases c:x.Principal=-1
 ·simp only [c,decide_true,vP,jn,xY,Bool.or_true,if_true]
  by_cases c1:s.Since=-1
  ·simp [c1]
  ·by_cases c2:x.Time<s.Since
   ·simp [c1,c2]
   ·simp [c1,c2]
 ·simp only [c,decide_false,vN,jn,o9 (a00 (n:=s.Readers+1) (by omega) (by omega)),xY,Bool.or_false,if_false]
  by_cases c1:s.Since=-1
  ·simp [c1]
  ·by_cases c2:x.Time<s.Since
   ·simp [c1,c2]
   ·simp [c1,c2]
theorem c42:∀(l:List z8) (k:Int) (s:o6),0≤s.Readers→s.Readers+l.length≤1000→a09 e94 l k s=some (l.foldl tl1 s)
 | [],k,s,h,h'=>rfl
 | x::r,k,s,h,h'=>by
  simp only [wB] at h'
  simp only [a09,e0g k (show 0≤s.Readers∧s.Readers≤1000 by omega),xY,wP]
  refine c42 r (k+1) _ ?_ ?_
  ·show 0≤ite _ _ _;split<;>omega
  ·show ite _ _ _+(r.length:Int)≤1000;split<;>omega
def c58 (l:List z8):List z8:=l.filter fun x=>decide (x.Principal≠-1)
def c5z (l:List z8) (t:Int):Prop:=(l=[]∧t=-1)∨(∃x∈l,t=x.Time)∧∀x∈l,t≤x.Time
structure Tl (l:List z8) (m s:o6):Prop where
 fp:s.Fingerprint=m.Fingerprint
 sp:s.Spots=m.Spots
 sv:s.Severity=m.Severity
 ro:s.Rotated=m.Rotated
 de:s.Dead=m.Dead
 pu:s.Public=(m.Public||l.any fun x=>decide (x.Principal=-1))
 rd:s.Readers=m.Readers+(c58 l).length
 si:c5z l s.Since
theorem d3v {m s:o6} {l:List z8} {x:z8} (ih:Tl l m s) (hl:∀y∈l,0≤y.Time) (hx:0≤x.Time):Tl (l++[x]) m (tl1 s x):=by
 refine ⟨ih.fp,ih.sp,ih.sv,ih.ro,ih.de,?_,?_,?_⟩
 ·show (_||_)=_
  rw [ih.pu];simp [Bool.or_assoc]
 ·show ite _ _ _=_
  rw [ih.rd]
  by_cases c:x.Principal=-1
  ·rw [if_pos c];simp [c58,c]
  ·rw [if_neg c];simp [c58,c];omega
 ·show c5z _ (ite _ _ _)
  right
  rcases ih.si with ⟨e,e1⟩|⟨⟨y,hy,e⟩,h2⟩
  ·subst e
   rw [if_pos (.inl e1)]
   exact ⟨⟨x,by simp,rfl⟩,by simp⟩
  ·have hy0:=hl y hy
   by_cases c:s.Since=-1∨x.Time<s.Since
   ·rw [if_pos c]
    refine ⟨⟨x,by simp,rfl⟩,fun z hz=>?_⟩
    simp only [wM,xG] at hz
    rcases hz with hz|rfl
    ·have:=h2 z hz;omega
    ·exact vM _
   ·rw [if_neg c]
    refine ⟨⟨y,by simp [hy],e⟩,fun z hz=>?_⟩
    simp only [wM,xG] at hz
    rcases hz with hz|rfl
    ·exact h2 z hz
    ·omega
theorem e0f {m:o6}:∀(l pre:List z8) (s:o6),Tl pre m s→(∀y∈pre,0≤y.Time)→(∀y∈l,0≤y.Time)→Tl (pre++l) m (l.foldl tl1 s)
 | [],pre,s,h,_,_=>by simpa using h
 | x::r,pre,s,h,hp,hl=>by
  rw [wP]
  have:=e0f r (pre++[x]) _ (d3v h hp (hl x (by simp))) (fun y hy=>by
   simp only [wM,xG] at hy
   rcases hy with hy|rfl
   ·exact hp y hy
   ·exact hl y (by simp)) fun y hy=>hl y (by simp [hy])
  simpa using this
theorem c8o {m:o6} (hm:m.Since=-1) (l:List z8) (h:∀x∈l,0≤x.Time):Tl l m (l.foldl tl1 m):=by
 have:=e0f l [] m ⟨rfl,rfl,rfl,rfl,rfl,by simp,by simp [c58],.inl ⟨rfl,hm⟩⟩ (by simp) h
 simpa using this
theorem c4f {d:d9} {a:l5} (g:a1n d) (h:Good a) {c p t:Int} (hs:sin d a c p=some t):0≤t∧t≤1099511627776:=by
 rcases b8q.1 (List.mem_of_find?_eq_some hs) with ⟨x,hx,rfl⟩|⟨x,hx,rfl⟩
 ·exact ⟨(h.ev x hx).1,(h.ev x hx).2.1⟩
 ·exact ⟨(g.ev x hx).2.1,(g.ev x hx).2.2.1⟩
theorem b73 {d:d9} {a:l5} (g:a1n d) (h:Good a) {c:Int}:∀x∈a9x d a c,0≤x.Time∧x.Time≤1099511627776:=fun x hx=>c4f g h (b5c.1 hx).2
theorem b9y (l:List z8):(c58 l).length≤l.length:=List.length_filter_le _ _
theorem d3x {d:d9} {a:l5} (g:a1n d) (h:Good a) {c:Int} (h0:0≤c) (h1:c≤63) (m:o6) (hm:m.Readers=0) :
  Ok (f01 m d a c) fun y=>y.1=0∧Tl (a9x d a c) (o6.mk m.Fingerprint m.Spots m.Public m.Readers (-1) m.Severity m.Rotated m.Dead) y.2:=by
 unfold f01
 rw [f0h g h h0 h1,xY]
 simp only [decide_true,w5,vN]
 have hl:=a6b d a c (d.Kinds.length+1) (-1)
 have:=g.kl
 rw [c42 (a9x d a c) 0 _ (by show 0≤m.Readers;omega) (by show m.Readers+((a9x d a c).length:Int)≤1000;unfold a9x;omega),xY]
 exact Ok.ret ⟨rfl,c8o rfl _ fun x hx=>(b73 g h x hx).1⟩
noncomputable def sev (x:l6) (w:List Int) (n:Int) (pub:Bool) (k:Int):q9:=⟨lvl (b3a w x k w.length*aud n pub),b3a w x k w.length,aud n pub,b3a w x k w.length*aud n pub⟩
def e0s (m:o6) (v:q9):o6:=o6.mk m.Fingerprint m.Spots m.Public m.Readers m.Since v m.Rotated m.Dead
def c3u (f:Int→q9) (l:List Int) (v0 v:q9):Prop:=(l=[]∧v=v0)∨(∃k∈l,v=f k)∧∀k∈l,(f k).Score≤v.Score
theorem c9l {m:o6} {r:o5} {x:l6} {w:List Int} (hr:a7a r) (g:a1d x) (hw:wOK w) (hl:(w.length:Int)=x.Resources) (hn:0≤m.Readers∧m.Readers≤24) :
  Ok (e9l m r x w) fun y=>((∃k∈finds r m.Fingerprint,x.Credentials≤k)∧y.1=2)∨(∀k∈finds r m.Fingerprint,k<x.Credentials)∧y.1=0∧∃v,y.2=e0s m v∧c3u (sev x w m.Readers m.Public) (finds r m.Fingerprint) m.Severity v:=by
 unfold e9l
 have e1:e8o w=some false:=by
  unfold e8o f1j
  rw [a3v (fun _=>false) w fun k a ha=>?_]
  ·simp
  ·unfold f8q f1k
   have:=hw a ha
   have e:(decide (a<0)||decide (100<a))=false:=by simp;omega
   simp only [grp,e,xY];rfl
 have e2:e8n (finds r m.Fingerprint) x=some ((finds r m.Fingerprint).any fun k=>decide (x.Credentials≤k)):=by
  unfold e8n f2y
  rw [a3v (fun k=>decide (x.Credentials≤k)) _ fun k a ha=>?_]
  show (bif decide (x.Credentials≤a) then some (Fl.ex k) else some (Fl.nx ()))=_
  cases decide (x.Credentials≤a)<;>rfl
 rw [c07 hr,xY,a5e,if_pos g]
 simp only [decide_true,w5,vN,xY]
 rw [d55 hr,xY,wU hl,e1]
 simp only [w5,vN,xY]
 rw [e2,xY]
 refine Ok.ite (fun c=>Ok.ret (.inl ⟨by simpa using c,rfl⟩)) fun c=>?_
 have c:∀k∈finds r m.Fingerprint,k<x.Credentials:=by simpa using c
 generalize hF:finds r m.Fingerprint=L at *
 have hL:∀k∈L,0≤k∧k<24:=fun k hk=>b1n hr (hF▸hk)
 have hlen:L.length≤24:=by rw [←hF];have:=c0r (fun c:o7=>decide (c.Fingerprint=m.Fingerprint)) r.Credentials 0;have:=hr.2.1;unfold finds;omega
 obtain ⟨f,hf⟩:∃f,f=sev x w m.Readers m.Public:=⟨_,rfl⟩
 refine Ok.bind (Ok.forI (all:=L) (Q:=fun o:Fl (List q9) (Int×o6)=>o=.nx (L.map f)) (fun pre y=>y=pre.map f) L [] 0 [] rfl rfl rfl (fun pre k q y hw' hy=>?_) fun y hy=>by rw [hy]) fun o ho=>?_
 ·have hk:k∈L:=by rw [hw'];simp
  have hp:pre.length<L.length:=by rw [hw'];simp
  unfold f8i
  rw [c5b g hw hl ⟨(hL k hk).1,by have:=c k hk;omega⟩ hn,xY]
  simp only [decide_true,w5,vN]
  refine Ok.chk (a0c (by rw [hy];simp;omega)) (Ok.ret ?_)
  show _=_
  rw [hy,List.map_append,hf];rfl
 ·rw [ho]
  simp only [Fl.elim]
  obtain ⟨z,e,z1,z2⟩:=c8j (L.map f) (by simp;omega)
  rw [e,xY]
  by_cases h0:L=[]
  ·subst h0
   have:z.2=false:=by rw [z1];rfl
   rw [this]
   exact Ok.ret (.inr ⟨by simp,rfl,m.Severity,rfl,.inl ⟨rfl,rfl⟩⟩)
  ·have hpos:0<L.length:=List.length_pos_iff.2 h0
   have:z.2=true:=by rw [z1];exact wU (by simp;omega)
   rw [this]
   obtain ⟨q1,q2,q3,_⟩:=z2 (by simpa using hpos)
   have hi:z.1.toNat<L.length:=by simp at q2;omega
   simp only [vP]
   refine Ok.chk (u6.2 ⟨q1,q2⟩) (Ok.ret (.inr ⟨c,rfl,(L.map f).getD z.1.toNat default,rfl,.inr ⟨⟨L.getD z.1.toNat default,b0n hi,?_⟩,fun k hk=>?_⟩⟩))
   ·rw [←hf];simp [zE,hi]
   ·obtain ⟨i,hi',rfl⟩:=xA.1 hk
    have:=q3 i (by simpa using hi')
    rw [←hf]
    simpa [zE,hi'] using this
structure Scn (z:a2d):Prop where
 d:a1n z.d_
 dk:z.d_.Kinds.length≤7
 dk1:1≤z.d_.Kinds.length
 a:Good z.a_
 r:a7a z.r_
 x:a1d z.x_
 w:wOK z.w_
 wl:(z.w_.length:Int)=z.x_.Resources
 f0:0≤z.f_.Fingerprint
 f1:z.f_.Fingerprint≤18446744073709551615
 fw:z.f_.Where.length≤1000
 c0:0≤z.c_
 c1:z.c_≤63
 s:a8r z.fleet_ z.s_
 g:b4m z.group_
structure d8c (z:a2d) (m:o6):Prop where
 fp:m.Fingerprint=z.f_.Fingerprint
 sp:m.Spots=z.f_.Where.length
 pu:m.Public=(a9x z.d_ z.a_ z.c_).any fun x=>decide (x.Principal=-1)
 rd:m.Readers=(c58 (a9x z.d_ z.a_ z.c_)).length
 si:c5z (a9x z.d_ z.a_ z.c_) m.Since
 sv:c3u (sev z.x_ z.w_ m.Readers m.Public) (finds z.r_ z.f_.Fingerprint) ⟨0,0,0,0⟩ m.Severity
 ro:m.Rotated=(decide (z.s_.Valid=2)&&z.s_.Units.all b5u)
 de:m.Dead=c77 z.group_ 1
theorem d23 {z:a2d} (h:Scn z):Ok (d9e z) fun y=>((∃k∈finds z.r_ z.f_.Fingerprint,z.x_.Credentials≤k)∧y=(zS,2))∨(∀k∈finds z.r_ z.f_.Fingerprint,k<z.x_.Credentials)∧y.2=0∧d8c z y.1:=by
 unfold d9e f0w
 obtain ⟨y,e,y1,y2⟩:=d3x h.d h.a h.c0 h.c1 (o6.mk z.f_.Fingerprint (z.f_.Where.length:Int) false 0 0 (q9.mk 0 0 0 0) false false) rfl
 rw [e,xY,y1]
 simp only [decide_true,w5,vN]
 have hrd:=b9y (a9x z.d_ z.a_ z.c_)
 have hel:=a6b z.d_ z.a_ z.c_ (z.d_.Kinds.length+1) (-1)
 have hdk:=h.dk
 have q1:=y2.rd
 have q2:=y2.fp
 simp only [Int.zero_add] at q1 q2
 obtain ⟨v,e2,v1⟩:=c9l (m:=y.2) h.r h.x h.w h.wl (by unfold a9x at q1 hrd;omega)
 rw [e2,xY]
 rcases v1 with ⟨v1,v2⟩|⟨v1,v2,u,v3,v4⟩
 ·rw [v2]
  rw [q2] at v1
  exact Ok.ret (.inl ⟨v1,rfl⟩)
 ·rw [v2]
  simp only [decide_true,w5,vN]
  rw [c04 h.s,xY]
  simp only [w5,vN]
  rw [c06 h.g,xY]
  simp only [decide_true,w5,vN]
  rw [c9s h.s,xY,d56 h.g (.inl rfl),xY,xY]
  rw [q2] at v1 v4
  refine Ok.ret (.inr ⟨v1,rfl,?_⟩)
  rw [v3]
  refine ⟨y2.fp,y2.sp,?_,q1,y2.si,?_,rfl,rfl⟩
  ·have:=y2.pu;show y.2.Public=_;simpa using this
  ·have e5:=y2.sv;simp only at e5;rw [e5] at v4;exact v4
theorem wrap_u64 {n:Int} (h0:0≤n) (h1:n≤1000000):IntKind.wrap .u64 n=n:=IntWalk.u64_in n ⟨h0,by omega⟩
theorem d6n {t:w9} (h:TOK t):Ok (e8x t) fun y=>Scn y.1∧y.1.x_.Credentials≤24∧y.1.a_.Events.length≤15∧(∀x∈y.1.a_.Events,x.Time≤33)∧TOK y.2:=by
 unfold e8x
 refine Ok.bind (e6m h) fun d hd=>?_
 obtain ⟨d1,d2,d3,_,_,d6⟩:=hd
 refine Ok.bind (c6u d6 d3) fun a ha=>?_
 obtain ⟨a1,a2,a3,a4,a5⟩:=ha
 refine Ok.bind (b8i a5) fun r hr=>Ok.bind (c4w hr.2) fun x hx=>?_
 obtain ⟨x1,x2,x3,x4,x5,x6,x7⟩:=hx
 refine Ok.bind (c3t x7 (by omega) (by omega)) fun w hw=>?_
 obtain ⟨w1,w2,w3⟩:=hw
 refine Ok.bind (a0a w3 (by omega)) fun f hf=>Ok.bind (a0a hf.2.2 (by omega)) fun n hn=>Ok.chk (a2a.2 ⟨hn.1,vM _,by have:=hn.2.1;omega⟩) (Ok.bind (a0a hn.2.2 (by omega)) fun c hc=>Ok.bind (e6j hc.2.2) fun fl hfl=>Ok.bind (d6z hfl.2 hfl.1) fun s hs=>Ok.bind (c2w hs.2) fun g hg=>Ok.ret ⟨?_,by show x.1.Credentials≤24;omega,a3,a4,hg.2⟩)
 have ew:IntKind.wrap .u64 f.1=f.1:=wrap_u64 hf.1 (by have:=hf.2.1;omega)
 exact ⟨d1,d3,d2,a1,hr.1,x1,w2,w1,by show 0≤IntKind.wrap .u64 f.1;rw [ew];exact hf.1,by show IntKind.wrap .u64 f.1≤_;rw [ew];have:=hf.2.1;omega,by show (List.replicate _ _).length≤1000;rw [List.length_replicate];have:=hn.2.1;omega,hc.1,by show c.1≤63;have:=hc.2.1;omega,hs.1,hg.1⟩
end Go.Ab
namespace Go.Ab
open Go.Proofs
theorem e1h {z:a2d} (h:Scn z) {m:o6} (t:d8c z m):0≤m.Readers∧m.Readers≤24:=by
 have hrd:=b9y (a9x z.d_ z.a_ z.c_)
 have hel:=a6b z.d_ z.a_ z.c_ (z.d_.Kinds.length+1) (-1)
 have hdk:=h.dk
 have:=t.rd
 unfold a9x at this hrd
 omega
end Go.Ab
namespace Go.Ab
open Go.Proofs
structure Push (a:l5) (x:o8):Prop where
 g:Good a
 g':Good ⟨a.Places,a.Events++[x]⟩
 k:x.Kind=1
 t:a.Events=[]∨∃y∈a.Events,y.Time=x.Time
theorem c4h (x:l6) (w:List Int) (n:Int) (p:Bool) (k:Int):(sev x w n p k).Level=lvl (sev x w n p k).Score:=rfl
theorem d46 {z:a2d} (h:Scn z):Scn (a2d.mk z.d_ z.a_ z.r_ (l6.mk 24 z.x_.Resources z.x_.Grants z.x_.Stores z.x_.Mints) z.w_ z.f_ z.c_ z.fleet_ z.s_ z.group_):=by
 have g:=h.x
 have hc:=g.c1
 refine ⟨h.d,h.dk,h.dk1,h.a,h.r,⟨by show (0:Int)≤24;omega,by show (24:Int)≤24;omega,g.r0,g.r1,g.gl,g.sl,g.ml,fun q hq=>?_,fun q hq=>?_,fun q hq=>?_⟩,h.w,h.wl,h.f0,h.f1,h.fw,h.c0,h.c1,h.s,h.g⟩
 ·have:=g.gr q hq;simp only [gOK] at this ⊢;omega
 ·have:=g.st q hq;simp only [sOK] at this ⊢;omega
 ·have:=g.mi q hq;simp only [mOK] at this ⊢;omega
theorem c7r {z:a2d} (h:Scn z) (hc:z.x_.Credentials=24):Ok (d9e z) fun y=>y.2=0∧d8c z y.1:=(d23 h).mono fun y hy=>by
 rcases hy with ⟨⟨k,h1,h2⟩,_⟩|⟨_,h1⟩
 ·have:=b1n h.r h1;omega
 ·exact h1
end Go.Ab
