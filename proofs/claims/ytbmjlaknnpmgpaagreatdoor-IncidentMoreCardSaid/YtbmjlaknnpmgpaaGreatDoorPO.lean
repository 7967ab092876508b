/- Numbers and words of a line (for chapter 43). -/
import Derived.Test.YtbmjlaknnpmgpaaGreatDoorAbRun
import Derived.Lib.Join
import Derived.Test.YtbmjlaknnpmgpaaGreatDoorLT
import Derived.Test.YtbmjlaknnpmgpaaGreatDoorPA
import Derived.Test.YtbmjlaknnpmgpaaGreatDoorLX
set_option linter.all false
set_option linter.all false
namespace Go.Ab
open Go.Proofs
theorem dig_bounds (u:Nat):∀c∈Lib.decDigits u,48≤c.toNat∧c.toNat≤57:=by
 induction u using Nat.strongRecOn with
 | _ u ih =>
  intro c hc
  rw [Lib.decDigits] at hc
  split at hc
  ·rename_i h
   simp at hc;subst hc
   simp;omega
  ·rcases wK.1 hc with hc|hc
   ·exact ih (u / 10) (by omega) c hc
   ·simp at hc;subst hc
    simp;omega
theorem parse_dig (u:Nat) (h:u≤18446744073709551615) (l:Str):Lib.parseUint10 0 (Lib.decDigits u++l)=Lib.parseUint10 u l:=by
 induction u using Nat.strongRecOn generalizing l with
 | _ u ih =>
  rw [Lib.decDigits]
  split
  ·rename_i hu
   have e:(UInt8.ofNat (48+u)).toNat=48+u:=by simp;omega
   simp only [wB,wI,Lib.parseUint10,e]
   rw [if_pos (by omega),if_neg (by omega),if_neg (by omega)]
   congr 1;omega
  ·rename_i hu
   rw [List.append_assoc,ih (u / 10) (by omega) (by omega)]
   have e:(UInt8.ofNat (48+u % 10)).toNat=48+u % 10:=by simp;omega
   simp only [wB,wI,Lib.parseUint10,e]
   rw [if_pos (by omega),if_neg (by omega),if_neg (by omega)]
   congr 1;omega
theorem dec_ne (u:Nat):Lib.decDigits u≠[]:=by rw [Lib.decDigits];split<;>simp
theorem mag_dig (u:Nat) (h:u≤18446744073709551615):Lib.parseMag (Lib.decDigits u)=.ok u:=by
 have hp:=parse_dig u h []
 rw [wP] at hp
 unfold Lib.parseMag
 rw [if_neg (dec_ne u),hp];rfl
theorem dec_len {u:Nat} (hu:u<18446744073709551616):(Lib.decDigits u).length≤20:=by
 rw [Lib.decDigits_length]
 by_cases h:1≤u
 ·have:=Lib.numDigits_eq u h hu;split at this<;>omega
 ·obtain rfl:u=0:=by omega
  exact zQ (by kernel_rfl)
theorem atoiE_all {n:Int} (h0:-9223372036854775808≤n) (h1:n≤9223372036854775807):atoiE (Lib.itoa n)=some (n,true):=by
 have key:Lib.atoiAll (Lib.itoa n)=.ok n∧(Lib.itoa n).length≤21:=by
  refine ⟨?_,Lib.itoa_length_le n h0 h1⟩
  by_cases c:0≤n
  ·obtain ⟨u,rfl⟩:=Int.eq_ofNat_of_zero_le c
   rw [Lib.itoa_nonneg]
   have hb:=dig_bounds u
   cases hd:Lib.decDigits u with
   | nil=>exact absurd hd (dec_ne u)
   | cons c r =>
    have h1:=hb c (by rw [hd];simp)
    rw [Lib.atoiAll_plain c r (by omega) (by omega),←hd,mag_dig u (by omega)]
    simp only [Lib.signless]
    rw [if_neg (by omega)]
  ·obtain ⟨u,hu⟩:∃u:Nat,n=-(u:Int):=⟨(-n).toNat,by omega⟩
   subst hu
   rw [Lib.itoa_neg u (by omega),Lib.atoiAll_minus,mag_dig u (by omega)]
   simp only [Lib.signed]
   rw [if_neg (by omega)]
 refine Ok.eq (Ok.chk (wS (by omega)) (Ok.ret ?_))
 unfold atoiV atoiB
 rw [key.1]
theorem joinTail_cons (sep a:Str) (l:List Str):Lib.joinTail sep (a::l)=sep++a++Lib.joinTail sep l:=by simp [Lib.joinTail]
theorem spl_join {b:UInt8}:∀(l:List Str) (a:Str),(∀w∈a::l,∀c∈w,c≠b)→spl b (Lib.join (a::l) [b])=a::l
 | [],a,h=>by
  rw [Lib.join_cons]
  simpa [Lib.joinTail] using spl_none (h a (by simp))
 | x::l,a,h=>by
  have ih:=spl_join (b:=b) l x fun w hw=>h w (xA _ hw)
  rw [Lib.join_cons] at ih
  rw [Lib.join_cons,joinTail_cons]
  have e:a++([b]++x++Lib.joinTail [b] l)=a++b::(x++Lib.joinTail [b] l):=by simp
  rw [e,spl_app _ (h a (by simp)),ih]
end Go.Ab
set_option maxRecDepth 20000
namespace Go.Ab
open Go.Proofs
structure SV (m:GSummary):Prop where
 f0:0≤m.Fingerprint
 f1:m.Fingerprint≤18446744073709551615
 a:in64 m.Spots=true
 b:in64 m.Readers=true
 c:in64 m.Since=true
 d:in64 m.Severity.Level=true
 e:in64 m.Severity.Worth=true
 f:in64 m.Severity.Audience=true
 g:in64 m.Severity.Score=true
def ch (b:Bool) (y n:Str):Str:=bif b then y else n
abbrev wPub:Str:=[112,117,98,108,105,99]
abbrev wIns:Str:=[105,110,115,105,100,101]
abbrev wRot:Str:=[114,111,116,97,116,101,100]
abbrev wVal:Str:=[118,97,108,105,100]
abbrev wDead:Str:=[100,101,97,100]
abbrev wAli:Str:=[97,108,105,118,101]
def wds (m:GSummary):List Str:=[[108,101,97,107],Lib.decDigits m.Fingerprint.toNat,[115,112,111,116,115],Lib.itoa m.Spots,ch m.Public wPub wIns,
 [114,101,97,100,101,114,115],Lib.itoa m.Readers,[115,105,110,99,101],Lib.itoa m.Since,[108,101,118,101,108],Lib.itoa m.Severity.Level,[119,111,114,116,104],Lib.itoa m.Severity.Worth,
 [97,117,100,105,101,110,99,101],Lib.itoa m.Severity.Audience,[115,99,111,114,101],Lib.itoa m.Severity.Score,ch m.Rotated wRot wVal,ch m.Dead wDead wAli]
def ltx (m:GSummary):Str:=Lib.join (wds m) [32]
theorem choice_eq (b:Bool) (y n:Str):F_17 b y n=some (ch b y n):=by cases b<;>rfl
theorem fut_eq {n:Int} (h0:0≤n) (h1:n≤18446744073709551615):futI n 10=some (Lib.decDigits n.toNat):=by
 unfold futI
 exact chk_true (by simp;omega)
theorem itoa_eq {n:Int} (h:in64 n=true):itoaI n=some (Lib.itoa n):=chk_true h
theorem itoa_len {n:Int} (h:in64 n=true):(Lib.itoa n).length≤21:=Lib.itoa_length_le n (in64_iff.1 h).1 (in64_iff.1 h).2
theorem ch_len {b:Bool} {y n:Str} (h1:y.length≤7) (h2:n.length≤7):(ch b y n).length≤7:=by cases b<;>assumption
theorem joinTail_nil (sep:Str):Lib.joinTail sep []=[]:=rfl
theorem join_len {n:Nat}:∀(l:List Str) (a:Str),(∀w∈a::l,w.length≤n)→(Lib.join (a::l) [32]).length≤(n+1)*(l.length+1)
 | [],a,h=>by
  have:=h a (by simp)
  rw [Lib.join_cons,joinTail_nil];simp;omega
 | x::l,a,h=>by
  have ih:=join_len l x fun w hw=>h w (xA _ hw)
  have:=h a (by simp)
  rw [Lib.join_cons] at ih
  rw [Lib.join_cons,joinTail_cons,xH,xH,xH,show (x::l).length+1=(l.length+1)+1 from rfl,Nat.mul_add (n+1) (l.length+1) 1]
  rw [xH] at ih
  simp only [x8,wL]
  omega
theorem wds_len {m:GSummary} (h:SV m):∀w∈wds m,w.length≤21:=by
 have d:=dec_len (u:=m.Fingerprint.toNat) (by have:=h.f1;omega)
 have a1:=itoa_len h.a;have a2:=itoa_len h.b;have a3:=itoa_len h.c;have a4:=itoa_len h.d;have a5:=itoa_len h.e;have a6:=itoa_len h.f;have a7:=itoa_len h.g
 have c1:=ch_len (b:=m.Public) (y:=wPub) (n:=wIns) (by decide) (by decide)
 have c2:=ch_len (b:=m.Rotated) (y:=wRot) (n:=wVal) (by decide) (by decide)
 have c3:=ch_len (b:=m.Dead) (y:=wDead) (n:=wAli) (by decide) (by decide)
 have lit:∀{l:Str},l.length≤8→l.length≤21:=fun h=>w8 h (by decide)
 unfold wds
 simp only [List.forall_mem_cons]
 exact ⟨lit (by decide),w8 d (by decide),lit (by decide),a1,w8 c1 (by decide),lit (by decide),a2,lit (by decide),a3,lit (by decide),a4,lit (by decide),a5,lit (by decide),a6,lit (by decide),a7,w8 c2 (by decide),w8 c3 (by decide),fun _ h=>by cases h⟩
theorem ltx_len {m:GSummary} (h:SV m):(ltx m).length≤418:=join_len (n:=21) _ _ (wds_len h)
theorem room16 {n:Nat} (h:n≤100):room n 16=true:=room_iff.2 (by omega)
theorem text_p {m:GSummary} (h:SV m):F_r m=some (ltx m):=by
 have hl:=ltx_len h
 have ej:joinO (wds m) [32]=some (ltx m):=by
  unfold joinO joinI
  exact chk_true (by simp only [wD,xM];exact ⟨by simp [wds],by show (ltx m).length≤_;omega⟩)
 refine Ok.eq ?_
 unfold F_r
 refine Ok.bind (Ok.of (fut_eq h.f0 h.f1) rfl) fun y e=>?_
 subst e
 refine Ok.bind (Ok.of (itoa_eq h.a) rfl) fun y e=>?_
 subst e
 refine Ok.bind (Ok.of (choice_eq _ _ _) rfl) fun y e=>?_
 subst e
 have L:∀(k:Int) (a:GS118) (x:List Str),in64 a.n_=true→x.length≤40→F_23 k a x=some (x++[a.name_,Lib.itoa a.n_]):=fun k a x h1 h2=>by
  unfold F_23
  rw [itoa_eq h1,xX,chk_true (room16 (by simp;omega))]
 have hb:=h.b;have hc:=h.c;have hd:=h.d;have he:=h.e;have hf:=h.f;have hg:=h.g
 refine Ok.bind (P:=fun x=>x=[[108,101,97,107],Lib.decDigits m.Fingerprint.toNat,[115,112,111,116,115],Lib.itoa m.Spots,ch m.Public wPub wIns,
  [114,101,97,100,101,114,115],Lib.itoa m.Readers,[115,105,110,99,101],Lib.itoa m.Since,[108,101,118,101,108],Lib.itoa m.Severity.Level,[119,111,114,116,104],Lib.itoa m.Severity.Worth,
  [97,117,100,105,101,110,99,101],Lib.itoa m.Severity.Audience,[115,99,111,114,101],Lib.itoa m.Severity.Score]) ?_ fun y e=>?_
 ·simp only [foldL]
  rw [L _ _ _ hb (by simp)];simp only [xX]
  rw [L _ _ _ hc (by simp)];simp only [xX]
  rw [L _ _ _ hd (by simp)];simp only [xX]
  rw [L _ _ _ he (by simp)];simp only [xX]
  rw [L _ _ _ hf (by simp)];simp only [xX]
  rw [L _ _ _ hg (by simp)];simp only [xX]
  exact Ok.ret rfl
 ·subst e
  refine Ok.bind (Ok.of (choice_eq _ _ _) rfl) fun y e=>?_
  subst e
  refine Ok.bind (Ok.of (choice_eq _ _ _) rfl) fun y e=>?_
  subst e
  refine Ok.chk (room16 (by simp)) (Ok.bind (Ok.of ej rfl) fun y e=>Ok.ret e.symm)
end Go.Ab
set_option maxRecDepth 20000
namespace Go.Ab
open Go.Proofs
theorem itoa_chars {n:Int}:∀c∈Lib.itoa n,c=45∨(48≤c.toNat∧c.toNat≤57):=by
 by_cases h:0≤n
 ·obtain ⟨u,rfl⟩:=Int.eq_ofNat_of_zero_le h
  rw [Lib.itoa_nonneg]
  exact fun c hc=>.inr (dig_bounds u c hc)
 ·obtain ⟨u,hu⟩:∃u:Nat,n=-(u:Int):=⟨(-n).toNat,by omega⟩
  subst hu
  rw [Lib.itoa_neg u (by omega)]
  intro c hc
  rcases wW.1 hc with rfl|hc
  ·exact .inl rfl
  ·exact .inr (dig_bounds u c hc)
theorem dig_sp {u:Nat}:∀c∈Lib.decDigits u,c≠32:=fun c hc e=>by
 subst e;have:=dig_bounds u _ hc;simp at this
theorem itoa_sp {n:Int}:∀c∈Lib.itoa n,c≠32:=fun c hc e=>by
 subst e;rcases itoa_chars _ hc with h|h
 ·cases h
 ·simp at h
theorem ch_sp {b:Bool} {y n:Str} (h1:∀c∈y,c≠32) (h2:∀c∈n,c≠32):∀c∈ch b y n,c≠32:=by cases b<;>assumption
def NS (l:Str):Prop:=∀c∈l,c≠32
theorem wds_sp (m:GSummary):∀w∈wds m,∀c∈w,c≠32:=by
 have lit:∀{l:Str},(l.all fun c=>c != 32)=true→∀c∈l,c≠32:=fun h c hc=>by
  have:=wC.1 h c hc
  simpa using this
 show ∀w∈wds m,NS w
 unfold wds
 simp only [List.forall_mem_cons]
 exact ⟨lit (by decide),dig_sp,lit (by decide),itoa_sp,ch_sp (lit (by decide)) (lit (by decide)),lit (by decide),itoa_sp,lit (by decide),itoa_sp,lit (by decide),itoa_sp,lit (by decide),itoa_sp,lit (by decide),itoa_sp,lit (by decide),itoa_sp,
  ch_sp (lit (by decide)) (lit (by decide)),ch_sp (lit (by decide)) (lit (by decide)),fun _ h=>by cases h⟩
theorem spl_ltx (m:GSummary):spl 32 (ltx m)=wds m:=spl_join _ _ (wds_sp m)
def zS:GSummary:=GSummary.mk 0 0 false 0 0 (GSeverity.mk 0 0 0 0) false false
def setF (o:Nat) (v:Int) (m:GSummary):GSummary:=match o with
 | 1=>{ m with Spots:=v }
 | 3=>{ m with Readers:=v }
 | 4=>{ m with Since:=v }
 | 5=>{ m with Severity:={ m.Severity with Level:=v } }
 | 6=>{ m with Severity:={ m.Severity with Worth:=v } }
 | 7=>{ m with Severity:={ m.Severity with Audience:=v } }
 | 8=>{ m with Severity:={ m.Severity with Score:=v } }
 | _=>m
abbrev es43:List (Int×Nat):=[(3,1),(6,3),(8,4),(10,5),(12,6),(14,7),(16,8)]
def bdy (y:List Str) (s:Bool×GSummary) (a:Int×Nat):Bool×GSummary:=(s.1||!atoiB (y.getD a.1.toNat default),setF a.2 (atoiV (y.getD a.1.toNat default)) s.2)
theorem L1_eq {y:List Str} (hy:y.length=19) (hl:∀k,(y.getD k default).length≤281474976710656) {a:Int×Nat} (ha:a∈es43) (k:Int) (s:Bool×GSummary):F_18 y k a s=some (bdy y s a):=by
 have at':∀k,atoiE (y.getD k default)=some (atoiV (y.getD k default),atoiB (y.getD k default)):=fun k=>chk_true (wS (hl k))
 have ib:∀k:Int,0≤k→k<19→inb k y.length=true:=fun k h0 h1=>inb_iff.2 ⟨h0,by omega⟩
 simp only [es43,wW,List.not_mem_nil,or_false] at ha
 rcases ha with rfl|rfl|rfl|rfl|rfl|rfl|rfl
 ·show chk (inb 3 y.length) ((atoiE (y.getD 3 default)).bind _)=_
  rw [chk_true (ib 3 (by decide) (by decide)),at'];rfl
 ·show chk (inb 6 y.length) ((atoiE (y.getD 6 default)).bind _)=_
  rw [chk_true (ib 6 (by decide) (by decide)),at'];rfl
 ·show chk (inb 8 y.length) ((atoiE (y.getD 8 default)).bind _)=_
  rw [chk_true (ib 8 (by decide) (by decide)),at'];rfl
 ·show chk (inb 10 y.length) ((atoiE (y.getD 10 default)).bind _)=_
  rw [chk_true (ib 10 (by decide) (by decide)),at'];rfl
 ·show chk (inb 12 y.length) ((atoiE (y.getD 12 default)).bind _)=_
  rw [chk_true (ib 12 (by decide) (by decide)),at'];rfl
 ·show chk (inb 14 y.length) ((atoiE (y.getD 14 default)).bind _)=_
  rw [chk_true (ib 14 (by decide) (by decide)),at'];rfl
 ·show chk (inb 16 y.length) ((atoiE (y.getD 16 default)).bind _)=_
  rw [chk_true (ib 16 (by decide) (by decide)),at'];rfl
theorem fold_eq {y:List Str} (hy:y.length=19) (hl:∀k,(y.getD k default).length≤281474976710656):∀(l:List (Int×Nat)) (k:Int) (s:Bool×GSummary),(∀a∈l,a∈es43)→foldL (F_18 y) l k s=some (l.foldl (bdy y) s)
 | [],k,s,_=>rfl
 | a::l,k,s,h=>by
  simp only [foldL,L1_eq hy hl (h a (by simp)),xX,wN]
  exact fold_eq hy hl l (k+1) _ fun b hb=>h b (by simp [hb])
theorem bdy_comm {y:List Str}:∀a∈es43,∀b∈es43,∀s,bdy y (bdy y s a) b=bdy y (bdy y s b) a:=by
 intro a ha b hb s
 have hB:∀p q r:Bool,((p||q)||r)=((p||r)||q):=by decide
 unfold bdy
 refine Prod.ext (hB _ _ _) ?_
 show setF b.2 _ (setF a.2 _ s.2)=setF a.2 _ (setF b.2 _ s.2)
 simp only [es43,wW,List.not_mem_nil,or_false] at ha hb
 rcases ha with rfl|rfl|rfl|rfl|rfl|rfl|rfl<;>rcases hb with rfl|rfl|rfl|rfl|rfl|rfl|rfl<;>rfl
def badW (y:List Str):Bool:=!(atoiB (y.getD 3 default)&&atoiB (y.getD 6 default)&&atoiB (y.getD 8 default)&&atoiB (y.getD 10 default)&&atoiB (y.getD 12 default)&&atoiB (y.getD 14 default)&&atoiB (y.getD 16 default))
def tS (u:Int) (y:List Str):GSummary:=GSummary.mk u (atoiV (y.getD 3 default)) (decide ((y.getD 4 default)=wPub)) (atoiV (y.getD 6 default)) (atoiV (y.getD 8 default))
 (GSeverity.mk (atoiV (y.getD 10 default)) (atoiV (y.getD 12 default)) (atoiV (y.getD 14 default)) (atoiV (y.getD 16 default))) (decide ((y.getD 17 default)=wRot)) (decide ((y.getD 18 default)=wDead))
theorem tS_ok {u:Int} (h0:0≤u) (h1:u≤18446744073709551615) (y:List Str):SV (tS u y):=by
 have r:∀s,in64 (atoiV s)=true:=fun s=>by have:=atoiV_rng s;rw [rng64] at this;exact this
 exact ⟨h0,h1,r _,r _,r _,r _,r _,r _,r _⟩
theorem puE_all {s:Str} (h:s.length≤281474976710656):∃u b,puE s 10 64=some (u,b)∧0≤u∧u≤18446744073709551615:=by
 unfold puE
 rw [chk_true (by simp [h])]
 cases e:Lib.parseUintB 64 s with
 | ok u=>exact ⟨u,true,rfl,by omega,by have:=Lib.parseUintB_le e;simp at this;omega⟩
 | range=>exact ⟨_,_,rfl,by decide,by decide⟩
 | _=>exact ⟨0,false,rfl,by decide,by decide⟩
theorem puE_dig {u:Nat} (h:u≤18446744073709551615):puE (Lib.decDigits u) 10 64=some ((u:Int),true):=by
 have hl:=dec_len (u:=u) (by omega)
 unfold puE
 rw [chk_true (by simp;omega),Lib.parseUintB_64,mag_dig u h]
theorem spl_piece (b:UInt8) (s:Str) (k:Nat):((spl b s).getD k default).length≤s.length:=by
 by_cases h:k<(spl b s).length
 ·have:(spl b s).getD k default∈spl b s:=by rw [zE,zJ h];exact wA h
  exact spl_len b s _ this
 ·rw [zE,List.getElem?_eq_none (by omega)];exact vE _
theorem prog_eq {t:Str} (ht:t.length≤1000):∃u:Int,0≤u∧u≤18446744073709551615∧(∀m,SV m→spl 32 t=wds m→u=m.Fingerprint) ∧
  ((∃b,F_s t=some (bif b||(!decide ((spl 32 t).length=19)||!decide (ltx (tS u (spl 32 t))=t)) then (zS,4) else (tS u (spl 32 t),0))∧(∀m,SV m→spl 32 t=wds m→b=false))):=by
 have es:splI t [32]=some (spl 32 t):=by
  unfold splI;simp only;rw [wS (by omega)];rfl
 have hl:∀k,((spl 32 t).getD k default).length≤281474976710656:=fun k=>w8 (spl_piece 32 t k) (by omega)
 obtain ⟨u,bu,hu,h0,h1⟩:=puE_all (hl 1)
 refine ⟨u,h0,h1,fun m hm e=>?_,?_⟩
 ·rw [e] at hu
  have h2:puE ((wds m).getD 1 default) 10 64=some ((m.Fingerprint.toNat:Int),true):=puE_dig (by have:=hm.f1;omega)
  rw [h2] at hu
  have:=congrArg Prod.fst (wG hu)
  simp only at this
  have:=hm.f0;omega
 ·generalize hy:spl 32 t=y at es hl hu
  by_cases h19:y.length=19
  ·have hperm:∀l,l.Perm es43→foldL (F_18 y) l 0 (!bu,zS)=some (es43.foldl (bdy y) (!bu,zS)):=fun l hp=>by
    rw [fold_eq h19 hl l 0 _ fun a ha=>hp.mem_iff.1 ha]
    exact congrArg some (List.Perm.foldl_eq' hp (fun a ha b hb s=>bdy_comm a (hp.mem_iff.1 ha) b (hp.mem_iff.1 hb) s) _)
   have hfin:es43.foldl (bdy y) (!bu,zS)=(!bu||badW y,{ tS u y with Fingerprint:=0,Public:=false,Rotated:=false,Dead:=false }):=by
    refine Prod.ext ?_ rfl
    show (((((((!bu||!atoiB _)||!atoiB _)||!atoiB _)||!atoiB _)||!atoiB _)||!atoiB _)||!atoiB _)=_
    unfold badW
    have:∀a b c d e f g h:Bool,(((((((!a||!b)||!c)||!d)||!e)||!f)||!g)||!h)=(!a||!(b&&c&&d&&e&&f&&g&&h)):=by decide
    exact this _ _ _ _ _ _ _ _
   refine ⟨!bu||badW y,?_,fun m hm e=>?_⟩
   ·refine Ok.eq ?_
    unfold F_s
    refine Ok.bind (Ok.of es rfl) fun y' e=>?_
    subst e
    refine Ok.ite (fun hc=>by simp [h19] at hc) fun _=>?_
    refine Ok.chk (inb_iff.2 ⟨by decide,by omega⟩) (Ok.bind (Ok.of hu rfl) fun q e=>?_)
    subst e
    refine Ok.of (permL_of fun l hp=>?_) rfl
    show ((foldL (F_18 y) l 0 (!bu,zS)).bind _)=_
    rw [hperm l hp,hfin,xX,chk_true (inb_iff.2 ⟨by decide,by omega⟩),chk_true (inb_iff.2 ⟨by decide,by omega⟩),chk_true (inb_iff.2 ⟨by decide,by omega⟩)]
    cases hw:(!bu||badW y) with
    | true=>simp only [vL,Bool.true_or];rfl
    | false =>
     simp only [vJ,wZ]
     show ((F_r (tS u y)).bind fun y127=>bif !decide (y127=t) then some (zS,4) else some (tS u y,0))=_
     rw [text_p (tS_ok h0 h1 y),xX]
     rw [wS h19,wY,wZ]
     cases hd:(!decide (ltx (tS u y)=t))<;>rfl
   ·have hat:∀{n:Int},in64 n=true→atoiB (Lib.itoa n)=true:=fun {n} h=>by
     have:=atoiE_all (in64_iff.1 h).1 (in64_iff.1 h).2
     have:=(atoiE_inv this).2
     have:=congrArg Prod.snd this
     exact this.symm
    rw [e] at hu
    have h2:puE ((wds m).getD 1 default) 10 64=some ((m.Fingerprint.toNat:Int),true):=puE_dig (by have:=hm.f1;omega)
    rw [h2] at hu
    have hb:=congrArg Prod.snd (wG hu)
    simp only at hb
    subst hb
    rw [e]
    unfold badW
    show (!true||!(atoiB (Lib.itoa _)&&atoiB (Lib.itoa _)&&atoiB (Lib.itoa _)&&atoiB (Lib.itoa _)&&atoiB (Lib.itoa _)&&atoiB (Lib.itoa _)&&atoiB (Lib.itoa _)))=false
    rw [hat hm.a,hat hm.b,hat hm.c,hat hm.d,hat hm.e,hat hm.f,hat hm.g];rfl
  ·refine ⟨true,?_,fun m hm e=>absurd (by rw [e];rfl) h19⟩
   refine Ok.eq ?_
   unfold F_s
   refine Ok.bind (Ok.of es rfl) fun y' e=>?_
   subst e
   refine Ok.ite (fun _=>Ok.ret rfl) fun hc=>?_
   simp at hc;omega
theorem tS_wds {m:GSummary} (hm:SV m):tS m.Fingerprint (wds m)=m:=by
 have hat:∀{n:Int},in64 n=true→atoiV (Lib.itoa n)=n:=fun {n} h=>by
  have:=atoiE_all (in64_iff.1 h).1 (in64_iff.1 h).2
  exact (congrArg Prod.fst (atoiE_inv this).2).symm
 have c1:∀b,decide (ch b wPub wIns=wPub)=b:=fun b=>by cases b<;>decide
 have c2:∀b,decide (ch b wRot wVal=wRot)=b:=fun b=>by cases b<;>decide
 have c3:∀b,decide (ch b wDead wAli=wDead)=b:=fun b=>by cases b<;>decide
 show GSummary.mk m.Fingerprint (atoiV (Lib.itoa _)) (decide (ch _ wPub wIns=wPub)) (atoiV (Lib.itoa _)) (atoiV (Lib.itoa _)) (GSeverity.mk (atoiV (Lib.itoa _)) (atoiV (Lib.itoa _)) (atoiV (Lib.itoa _)) (atoiV (Lib.itoa _))) (decide (ch _ wRot wVal=wRot)) (decide (ch _ wDead wAli=wDead))=m
 rw [hat hm.a,hat hm.b,hat hm.c,hat hm.d,hat hm.e,hat hm.f,hat hm.g,c1,c2,c3]
def Res43 (t:Str) (r:GSummary×Int):Prop:=(∃m,SV m∧ltx m=t∧r=(m,0))∨((∀m,SV m→ltx m≠t)∧r=(zS,4))
theorem prog43 {t:Str} (ht:t.length≤1000):Ok (F_s t) (Res43 t):=by
 obtain ⟨u,h0,h1,hm,b,hb,hbf⟩:=prog_eq ht
 refine ⟨_,hb,?_⟩
 by_cases h:∃m,SV m∧ltx m=t
 ·obtain ⟨m,hm1,rfl⟩:=h
  have e:=spl_ltx m
  have e1:=hm m hm1 e
  subst e1
  rw [hbf m hm1 e,e,tS_wds hm1]
  refine .inl ⟨m,hm1,rfl,?_⟩
  simp [wds]
 ·refine .inr ⟨fun m hm1 e=>h ⟨m,hm1,e⟩,?_⟩
  have:decide (ltx (tS u (spl 32 t))=t)=false:=wF fun e=>h ⟨_,tS_ok h0 h1 _,e⟩
  rw [this];simp
theorem res_inj {t:Str} {r r':GSummary×Int} (h:Res43 t r) (h':Res43 t r'):r=r':=by
 rcases h with ⟨m,hm,e,rfl⟩|⟨h,rfl⟩<;>rcases h' with ⟨m',hm',e',rfl⟩|⟨h',rfl⟩
 ·have e1:=spl_ltx m
  have e2:=spl_ltx m'
  rw [e] at e1;rw [e'] at e2
  have e3:wds m=wds m':=e1.symm.trans e2
  have hf:m.Fingerprint=m'.Fingerprint:=by
   have h1:puE ((wds m).getD 1 default) 10 64=some ((m.Fingerprint.toNat:Int),true):=puE_dig (by have:=hm.f1;omega)
   have h2:puE ((wds m').getD 1 default) 10 64=some ((m'.Fingerprint.toNat:Int),true):=puE_dig (by have:=hm'.f1;omega)
   rw [e3,h2] at h1
   have:=congrArg Prod.fst (wG h1)
   simp only at this
   have:=hm.f0;have:=hm'.f0;omega
  have h1:=tS_wds hm
  have h2:=tS_wds hm'
  rw [e3,hf,h2] at h1
  rw [h1]
 ·exact absurd e (h' m hm)
 ·exact absurd e' (h m' hm')
 ·rfl
end Go.Ab
set_option maxRecDepth 20000
namespace Go.Ab
open Go.Proofs
def m43:GSummary:=⟨7,1,false,2,5,⟨2,100,3,300⟩,true,true⟩
theorem m43_ok:SV m43:=by
 have h:∀n:Int,-9223372036854775808≤n→n≤9223372036854775807→in64 n=true:=fun n a b=>in64_iff.2 ⟨a,b⟩
 exact ⟨by decide,by decide,h _ (by decide) (by decide),h _ (by decide) (by decide),h _ (by decide) (by decide),h _ (by decide) (by decide),h _ (by decide) (by decide),h _ (by decide) (by decide),h _ (by decide) (by decide)⟩
abbrev t43:Str:=[108,101,97,107,32,55,32,115,112,111,116,115,32,49,32,105,110,115,105,100,101,32,114,101,97,100,101,114,115,32,50,32,115,105,110,99,101,32,53,32,108,101,118,101,108,32,50,32,119,111,114,116,104,32,49,48,48,32,97,117,100,105,101,110,99,101,32,51,32,115,99,111,114,101,32,51,48,48,32,114,111,116,97,116,101,100,32,100,101,97,100]
theorem dig1 {u:Nat} (h:u<10):Lib.decDigits u=[UInt8.ofNat (48+u)]:=by rw [Lib.decDigits,dif_pos h]
theorem dig3 {a b c:Nat} (h0:1≤a) (ha:a<10) (hb:b<10) (hc:c<10):Lib.decDigits (100*a+10*b+c)=[UInt8.ofNat (48+a),UInt8.ofNat (48+b),UInt8.ofNat (48+c)]:=by
 rw [Lib.decDigits,dif_neg (by omega),show (100*a+10*b+c) / 10=10*a+b by omega,show (100*a+10*b+c) % 10=c by omega,Lib.decDigits,dif_neg (by omega),show (10*a+b) / 10=a by omega,show (10*a+b) % 10=b by omega,dig1 ha]
 rfl
theorem ltx43:ltx m43=t43:=by
 have i:∀u:Nat,Lib.itoa (u:Int)=Lib.decDigits u:=fun u=>Lib.itoa_nonneg u
 have e:wds m43=[[108,101,97,107],[55],[115,112,111,116,115],[49],[105,110,115,105,100,101],
  [114,101,97,100,101,114,115],[50],[115,105,110,99,101],[53],[108,101,118,101,108],[50],[119,111,114,116,104],[49,48,48],
  [97,117,100,105,101,110,99,101],[51],[115,99,111,114,101],[51,48,48],[114,111,116,97,116,101,100],[100,101,97,100]]:=by
  show [[108,101,97,107],Lib.decDigits 7,[115,112,111,116,115],Lib.itoa ((1:Nat):Int),[105,110,115,105,100,101],
   [114,101,97,100,101,114,115],Lib.itoa ((2:Nat):Int),[115,105,110,99,101],Lib.itoa ((5:Nat):Int),[108,101,118,101,108],Lib.itoa ((2:Nat):Int),[119,111,114,116,104],Lib.itoa ((100*1+10*0+0:Nat):Int),
   [97,117,100,105,101,110,99,101],Lib.itoa ((3:Nat):Int),[115,99,111,114,101],Lib.itoa ((100*3+10*0+0:Nat):Int),[114,111,116,97,116,101,100],[100,101,97,100]]=_
  rw [i,i,i,i,i,i,dig1 (u:=7) (by decide),dig1 (u:=1) (by decide),dig1 (u:=2) (by decide),dig1 (u:=5) (by decide),dig1 (u:=3) (by decide),dig3 (a:=1) (b:=0) (c:=0) (by decide) (by decide) (by decide) (by decide),dig3 (a:=3) (b:=0) (c:=0) (by decide) (by decide) (by decide) (by decide)]
  rfl
 unfold ltx
 rw [e];rfl
theorem closed_eq (m:GSummary):F_3w m=some (m.Rotated&&m.Dead):=rfl
theorem awake43:F_19=some true:=by
 obtain ⟨r,hr,hres⟩:=prog43 (t:=t43) (by decide)
 have e:=res_inj hres (.inl ⟨m43,m43_ok,ltx43,rfl⟩)
 subst e
 refine Ok.eq ?_
 unfold F_19
 refine Ok.bind (Ok.of hr rfl) fun y e=>?_
 subst e
 refine Ok.jn (P:=fun b=>b=true) ?_ fun b e=>?_
 ·refine Ok.ite (fun _=>?_) fun h=>by simp at h
  refine Ok.bind (Ok.of (text_p m43_ok) rfl) fun y e=>?_
  subst e
  rw [ltx43]
  exact Ok.ret (wS rfl)
 ·subst e
  refine Ok.grp (Ok.grp ?_)
  refine Ok.jn (P:=fun b=>b=true) ?_ fun b e=>by subst e;exact Ok.ret rfl
  exact Ok.ite (fun _=>Ok.bind (Ok.of (closed_eq m43) rfl) fun y e=>by subst e;exact Ok.ret rfl) fun h=>by simp [m43] at h
end Go.Ab
namespace Go.Ab
open Go.Proofs
def nmOK (s:Str):Prop:=1≤s.length∧s.length≤40∧∀c∈s,97≤c.toNat∧c.toNat≤122
instance (s:Str):Decidable (nmOK s):=inferInstanceAs (Decidable (_∧_∧_))
def isuOK (i:GIssuer):Prop:=nmOK i.Name∧1≤i.Slots∧i.Slots≤2
instance (i:GIssuer):Decidable (isuOK i):=inferInstanceAs (Decidable (_∧_∧_))
def crOK (n:Nat) (c:GCredential):Prop:=0≤c.Issuer∧c.Issuer<n∧0≤c.Holder∧c.Holder≤23∧0≤c.From∧c.From<c.Until∧c.Until≤1099511627777
instance (n:Nat) (c:GCredential):Decidable (crOK n c):=inferInstanceAs (Decidable (_∧_∧_∧_∧_∧_∧_))
def hdB (i h t:Int) (c:GCredential):Bool:=decide (c.Issuer=i)&&decide (c.Holder=h)&&decide (c.From≤t)&&decide (t<c.Until)
def idxs {α:Type} (p:α→Bool):Nat→List α→List Int
 | _,[]=>[]
 | k,x::r=>bif p x then (k:Int)::idxs p (k+1) r else idxs p (k+1) r
def hldL (L:List GCredential) (i h t:Int):List Int:=idxs (hdB i h t) 0 L
def crR (r:GRegistry) (c:GCredential):Prop:=((hldL r.Credentials c.Issuer c.Holder c.From).length:Int)≤(r.Issuers.getD c.Issuer.toNat default).Slots
instance (r:GRegistry) (c:GCredential):Decidable (crR r c):=inferInstanceAs (Decidable (_≤_))
def RegOK (r:GRegistry):Prop:=r.Issuers.length≤8∧r.Credentials.length≤24∧(∀i∈r.Issuers,isuOK i)∧(∀c∈r.Credentials,crOK r.Issuers.length c)∧∀c∈r.Credentials,crR r c
instance (r:GRegistry):Decidable (RegOK r):=inferInstanceAs (Decidable (_∧_∧_∧_∧_))
theorem idxs_len {α:Type} (p:α→Bool):∀(l:List α) (k:Nat),(idxs p k l).length≤l.length
 | [],k=>vG _
 | x::r,k=>by
  simp only [idxs]
  have:=idxs_len p r (k+1)
  cases p x<;>simp<;>omega
theorem mem_idxs {α:Type} [Inhabited α] {p:α→Bool} {i:Int}:∀{l:List α} {k:Nat},i∈idxs p k l↔∃j,j<l.length∧i=(k+j:Nat)∧p (l.getD j default)=true
 | [],k=>by simp [idxs]
 | x::r,k=>by
  simp only [idxs]
  have ih:=mem_idxs (p:=p) (i:=i) (l:=r) (k:=k+1)
  have e:(∃j,j<(x::r).length∧i=(k+j:Nat)∧p ((x::r).getD j default)=true)↔(i=k∧p x=true)∨∃j,j<r.length∧i=(k+1+j:Nat)∧p (r.getD j default)=true:=by
   constructor
   ·rintro ⟨j,h1,h2,h3⟩
    cases j with
    | zero=>exact .inl ⟨by simpa using h2,by simpa using h3⟩
    | succ j=>exact .inr ⟨j,by simpa using h1,by rw [h2];omega,by simpa using h3⟩
   ·rintro (⟨h1,h2⟩|⟨j,h1,h2,h3⟩)
    ·exact ⟨0,by simp,by simpa using h1,by simpa using h2⟩
    ·exact ⟨j+1,by simpa using h1,by rw [h2];omega,by simpa using h3⟩
  rw [e,←ih]
  cases hp:p x<;>simp
theorem push_idxs {α:Type} {body:Int→α→List Int→Option (List Int)} (p:α→Bool) (n:Nat) (hn:n≤100000):∀(l:List α) (k:Nat) (s:List Int),s.length+l.length≤n →
  (∀(k:Int) (a:α) (x:List Int),a∈l→x.length<n→body k a x=some (bif p a then x++[k] else x))→foldL body l (k:Int) s=some (s++idxs p k l)
 | [],k,s,h,hb=>by simp [foldL,idxs]
 | a::r,k,s,h,hb=>by
  simp only [x8] at h
  simp only [foldL,hb k a s (by simp) (by omega),xX]
  have e:((k:Int)+1)=((k+1:Nat):Int):=by omega
  rw [e]
  cases hp:p a with
  | true =>
   rw [vL,push_idxs p n hn r (k+1) _ (by simp;omega) fun k a x ha=>hb k a x (by simp [ha])]
   simp [idxs,hp]
  | false =>
   rw [vJ,push_idxs p n hn r (k+1) _ (by omega) fun k a x ha=>hb k a x (by simp [ha])]
   simp [idxs,hp]
theorem rin_eq (x a b:Int):F_t x a b=some (decide (a≤x)&&decide (x≤b)):=rfl
theorem pin_eq (x a b:Int):F_1p x a b=some (decide (a≤x)&&decide (x≤b)):=rfl
theorem bnd2 {a b x:Int}:((decide (a≤x)&&decide (x≤b))=true)↔(a≤x∧x≤b):=by simp
theorem rname_loop (s:Str) (h:s.length≤40):Ok (loop (F_4z s) 0) fun r=>(r=.inl ()∧∀c∈s,97≤c.toNat∧c.toNat≤122)∨(r=.inr false∧¬∀c∈s,97≤c.toNat∧c.toNat≤122):=by
 refine Ok.loop (fun x:Int=>0≤x∧x≤s.length∧∀c∈s.take x.toNat,97≤c.toNat∧c.toNat≤122) (fun x:Int=>(s.length - x).toNat) (fun x hx=>?_) 0 ⟨by omega,by omega,by simp⟩
 obtain ⟨h0,h1,h2⟩:=hx
 unfold F_4z
 refine Ok.ite (fun c=>?_) fun c=>?_
 ·have c:x<s.length:=by simpa using c
  have hi:x.toNat<s.length:=by omega
  have hm:s.getD x.toNat 0∈s:=by simp [zE,hi]
  refine Ok.chk (inb_iff.2 ⟨h0,c⟩) (Ok.ite (fun c1=>Ok.ret ?_) fun c1=>Ok.chk (inb_iff.2 ⟨h0,c⟩) (Ok.ite (fun c2=>Ok.ret ?_) fun c2=>Ok.chk (in64_sm (by omega) (by omega)) (Ok.ret ?_)))
  ·refine .inr ⟨rfl,fun hh=>?_⟩
   have:=hh _ hm
   have c1:((s.getD x.toNat 0).toNat:Int)<97:=by simpa using c1
   omega
  ·refine .inr ⟨rfl,fun hh=>?_⟩
   have:=hh _ hm
   have c2:122<((s.getD x.toNat 0).toNat:Int):=by simpa using c2
   omega
  ·have c1:¬((s.getD x.toNat 0).toNat:Int)<97:=by simpa using c1
   have c2:¬122<((s.getD x.toNat 0).toNat:Int):=by simpa using c2
   refine ⟨⟨by omega,by omega,fun q hq=>?_⟩,by omega⟩
   rw [show (x+1).toNat=x.toNat+1 by omega,List.take_add_one] at hq
   rcases wK.1 hq with hq|hq
   ·exact h2 q hq
   ·rw [zJ hi] at hq
    simp only [Option.toList_some,xF] at hq
    subst hq
    have:s.getD x.toNat 0=s[x.toNat]:=by simp [zE,hi]
    rw [this] at c1 c2
    omega
 ·have c:¬x<s.length:=by simpa using c
  refine Ok.ret (.inl ⟨rfl,?_⟩)
  rwa [show x.toNat=s.length by omega,xY] at h2
theorem rname_eq (s:Str) (hs:s.length≤1000000):F_26 s=some (decide (nmOK s)):=by
 unfold F_26
 rw [rin_eq,xX]
 by_cases h:1≤s.length∧s.length≤40
 ·have e:(decide ((1:Int)≤s.length)&&decide ((s.length:Int)≤40))=true:=bnd2.2 (by omega)
  rw [e]
  obtain ⟨r,e1,e2⟩:=rname_loop s h.2
  simp only [wY,vJ,e1,xX]
  rcases e2 with ⟨rfl,e2⟩|⟨rfl,e2⟩
  ·simp only [Sum.elim_inl];rw [wS ⟨h.1,h.2,e2⟩]
  ·simp only [Sum.elim_inr];rw [wF fun hh=>e2 hh.2.2]
 ·have e:(decide ((1:Int)≤s.length)&&decide ((s.length:Int)≤40))=false:=by
   rw [Bool.eq_false_iff];intro hh;have:=bnd2.1 hh;omega
  rw [e]
  simp only [wU,vL]
  rw [wF fun hh=>h ⟨hh.1,hh.2.1⟩]
theorem rfields_eq (r:GRegistry) (c:GCredential) (h:r.Issuers.length≤8):F_27 r c=some (decide (crOK r.Issuers.length c)):=by
 unfold F_27
 rw [chk_true (in64_sm (by omega) (by omega))]
 simp only [rin_eq,xX,jn,grp]
 cases h1:(decide (0≤c.Issuer)&&decide (c.Issuer≤(r.Issuers.length:Int) - 1)) with
 | false =>
  simp only [vJ,xX,Bool.false_and]
  rw [wF];intro hh
  have:(decide (0≤c.Issuer)&&decide (c.Issuer≤(r.Issuers.length:Int) - 1))=true:=bnd2.2 ⟨hh.1,by have:=hh.2.1;omega⟩
  rw [h1] at this;cases this
 | true =>
  have h1:=bnd2.1 h1
  simp only [vL,xX]
  congr 1
  rw [wR]
  simp only [wD,xM]
  constructor
  ·rintro ⟨⟨⟨⟨a,b⟩,c'⟩,d⟩,e⟩
   exact ⟨h1.1,by omega,a,b,c',d,e⟩
  ·rintro ⟨_,_,a,b,c',d,e⟩
   exact ⟨⟨⟨⟨a,b⟩,c'⟩,d⟩,e⟩
theorem rheld_eq (r:GRegistry) (i h t:Int) (hn:r.Credentials.length≤24):F_28 r i h t=some (hldL r.Credentials i h t):=by
 unfold F_28
 rw [show (0:Int)=((0:Nat):Int) from rfl,push_idxs (hdB i h t) 24 (by omega) r.Credentials 0 [] (by simpa using hn) fun k a x ha hx=>?_]
 ·rfl
 ·unfold F_5n
  simp only [grp,hdB]
  cases (decide (a.Issuer=i)&&decide (a.Holder=h)&&decide (a.From≤t)&&decide (t<a.Until)) with
  | false=>rfl
  | true=>simp only [vL];rw [chk_true (room_sm (by simp;omega))]
theorem findL_all {α ρ:Type} {f:α→Option ρ} {p:α→Prop} [DecidablePred p] {y:ρ}:∀{l:List α},(∀x∈l,f x=if p x then none else some y)→findL f l=if (∀x∈l,p x) then none else some y
 | [],h=>by simp [findL]
 | x::r,h=>by
  simp only [findL,h x (by simp)]
  by_cases hp:p x
  ·simp only [hp,if_true]
   rw [findL_all (p:=p) (y:=y) fun x hx=>h x (by simp [hx])]
   by_cases hq:∀x∈r,p x
   ·rw [if_pos hq,if_pos (by simpa using ⟨hp,hq⟩)]
   ·rw [if_neg hq,if_neg fun hh=>hq fun x hx=>hh x (by simp [hx])]
  ·simp only [hp,if_false]
   rw [if_neg fun hh=>hp (hh x (by simp))]
theorem rright_eq (r:GRegistry) (hn:∀i∈r.Issuers,i.Name.length≤1000000):F_1b r=some (decide (RegOK r)):=by
 unfold F_1b
 simp only [grp]
 by_cases h0:r.Issuers.length≤8∧r.Credentials.length≤24
 ·have e:(decide ((8:Int)<r.Issuers.length)||decide ((24:Int)<r.Credentials.length))=false:=by simp;omega
  rw [e,vJ]
  rw [forL_find (fun i=>if isuOK i then none else some false) r.Issuers 0 fun k a ha=>?_]
  ·rw [findL_all (p:=isuOK) (y:=false) fun _ _=>rfl,xX,elim_flO]
   by_cases h1:∀i∈r.Issuers,isuOK i
   ·rw [if_pos h1]
    simp only
    rw [forL_find (fun c=>if crOK r.Issuers.length c then none else some false) r.Credentials 0 fun k a ha=>?_]
    ·rw [findL_all (p:=crOK r.Issuers.length) (y:=false) fun _ _=>rfl,xX,elim_flO]
     by_cases h2:∀c∈r.Credentials,crOK r.Issuers.length c
     ·rw [if_pos h2]
      simp only
      rw [forL_find (fun c=>if crR r c then none else some false) r.Credentials 0 fun k a ha=>?_]
      ·rw [findL_all (p:=crR r) (y:=false) fun _ _=>rfl,xX,elim_flO]
       by_cases h3:∀c∈r.Credentials,crR r c
       ·rw [if_pos h3,wS ⟨h0.1,h0.2,h1,h2,h3⟩]
       ·rw [if_neg h3,wF fun hh=>h3 hh.2.2.2.2]
      ·unfold F_5q
       obtain ⟨q1,q2,_⟩:=h2 a ha
       rw [rheld_eq r _ _ _ h0.2,xX,chk_true (inb_iff.2 ⟨q1,q2⟩)]
       by_cases hc:crR r a
       ·rw [if_pos hc];unfold crR at hc;rw [wF (by omega)];rfl
       ·rw [if_neg hc];unfold crR at hc;rw [wS (by omega)];rfl
     ·rw [if_neg h2,wF fun hh=>h2 hh.2.2.2.1]
    ·unfold F_5p
     rw [rfields_eq r a h0.1,xX]
     by_cases hc:crOK r.Issuers.length a
     ·rw [if_pos hc,wS hc];rfl
     ·rw [if_neg hc,wF hc];rfl
   ·rw [if_neg h1,wF fun hh=>h1 hh.2.2.1]
  ·unfold F_5o
   rw [rname_eq _ (hn a ha),xX,rin_eq]
   by_cases h1:nmOK a.Name
   ·rw [wS h1]
    simp only [wY,vJ,xX]
    by_cases h2:1≤a.Slots∧a.Slots≤2
    ·rw [bnd2.2 h2,if_pos ⟨h1,h2⟩];rfl
    ·rw [if_neg fun hh=>h2 hh.2,show (decide (1≤a.Slots)&&decide (a.Slots≤2))=false by rw [Bool.eq_false_iff];exact fun hh=>h2 (bnd2.1 hh)];rfl
   ·rw [wF h1,if_neg fun hh=>h1 hh.1];rfl
 ·have e:(decide ((8:Int)<r.Issuers.length)||decide ((24:Int)<r.Credentials.length))=true:=by simp;omega
  rw [e,vL,wF fun hh=>h0 ⟨hh.1,hh.2.1⟩]
theorem issue_ok {r:GRegistry} {c:GCredential} (h:RegOK r):Ok (F_2a r c) fun y=>y.2.2=0→RegOK y.1∧y.1.Issuers=r.Issuers:=by
 have hn:∀i∈r.Issuers,i.Name.length≤1000000:=fun i hi=>by have:=(h.2.2.1 i hi).1.2.1;omega
 unfold F_2a
 rw [rright_eq r hn,xX,wS h]
 simp only [wY,vJ]
 refine Ok.ite (fun c=>Ok.ret fun e=>by simp at e) fun c1=>?_
 have c1:¬(24:Int)≤r.Credentials.length:=by simpa using c1
 unfold F_29
 have l8:=h.1
 rw [chk_true (room_sm (by omega)),chk_true (room_sm (by omega)),xX]
 refine Ok.chk (room_sm (by simp;omega)) ?_
 rw [rright_eq (GRegistry.mk r.Issuers (r.Credentials++[c])) hn,xX]
 by_cases hk:RegOK ⟨r.Issuers,r.Credentials++[c]⟩
 ·rw [wS hk]
  exact Ok.ret fun _=>⟨hk,rfl⟩
 ·rw [wF hk]
  exact Ok.ret fun e=>by simp at e
theorem iss_nm:nmOK [105,115,115,117,101,114]:=by decide
theorem registry_ok {t:GTape} (h:TOK t):Ok (F_2b t) fun y=>RegOK y.1∧TOK y.2:=by
 unfold F_2b
 refine Ok.bind (between_ok h (by omega) (by omega) (by omega)) fun y hy=>?_
 refine Ok.bind (Ok.loop (Q:=fun y:List GIssuer×GTape=>y.1.length≤2∧1≤y.1.length∧(∀i∈y.1,isuOK i)∧TOK y.2) (fun x=>0≤x.1∧(x.2.1.length:Int)+x.1≤2∧1≤(x.2.1.length:Int)+x.1∧(∀i∈x.2.1,isuOK i)∧TOK x.2.2) (fun x=>x.1.toNat) (fun x hx=>?_) _ ?_) fun r hr=>?_
 ·obtain ⟨k,out,t⟩:=x
  obtain ⟨h1,h2,h2',h3,h4⟩:=hx
  simp only at h1 h2 h2' h3 h4
  unfold F_5r
  refine Ok.ite (fun c=>?_) fun c=>?_
  ·have c:0<k:=by simpa using c
   refine Ok.bind (between_ok h4 (by omega) (by omega) (by omega)) fun y hy=>?_
   refine Ok.chk (room_sm (by simp;omega)) (Ok.chk (in64_sm (by simp only;omega) (by simp only;omega)) (Ok.ret ?_))
   simp only [Fl.elim]
   refine ⟨⟨by omega,by simp;omega,by simp;omega,fun i hi=>?_,hy.2.2⟩,by omega⟩
   simp only [wK,xF] at hi
   rcases hi with hi|rfl
   ·exact h3 i hi
   ·exact ⟨iss_nm,hy.1,hy.2.1⟩
  ·have c:¬0<k:=by simpa using c
   refine Ok.ret ?_
   simp only [Fl.elim]
   exact ⟨by omega,by omega,h3,h4⟩
 ·exact ⟨by show 0≤y.1;omega,by show ((0:Nat):Int)+y.1≤2;omega,by show 1≤((0:Nat):Int)+y.1;omega,by simp,hy.2.2⟩
 ·obtain ⟨r1,r1',r2,r3⟩:=hr
  refine Ok.bind (next_ok r3 (by omega)) fun z hz=>?_
  refine Ok.bind (Ok.loop (Q:=fun y:GRegistry×GTape=>RegOK y.1∧TOK y.2) (fun x=>0≤x.1∧x.1≤8∧RegOK x.2.1∧1≤x.2.1.Issuers.length∧TOK x.2.2) (fun x=>x.1.toNat) (fun x hx=>?_) _ ?_) fun r hr=>Ok.ret hr
  ·obtain ⟨k,reg,t⟩:=x
   obtain ⟨h1,h2,h3,h3',h4⟩:=hx
   simp only at h1 h2 h3 h3' h4
   unfold F_5s
   refine Ok.ite (fun c=>?_) fun c=>Ok.ret ⟨h3,h4⟩
   have c:0<k:=by simpa using c
   refine Ok.jn (P:=fun j:GRegistry×GTape=>RegOK j.1∧1≤j.1.Issuers.length∧TOK j.2) ?_ fun j hj=>Ok.chk (in64_sm (by simp only;omega) (by simp only;omega)) (Ok.ret ?_)
   ·refine Ok.bind (P:=fun y:GCredential×GTape=>TOK y.2) ?_ fun y hy=>Ok.bind (issue_ok h3) fun w hw=>?_
    ·unfold F_3x
     refine Ok.bind (next_ok h4 (by omega)) fun a ha=>Ok.bind (next_ok ha.2.2 (by simp only;omega)) fun b hb=>Ok.bind (next_ok hb.2.2 (by omega)) fun c hc=>Ok.bind (next_ok hc.2.2 (by omega)) fun d hd=>?_
     exact Ok.chk (in64_sm (by omega) (by omega)) (Ok.bind (next_ok hd.2.2 (by omega)) fun e he=>Ok.chk (in64_sm (by omega) (by omega)) (Ok.ret he.2.2))
    ·refine Ok.ite (fun c=>Ok.ret ?_) fun c=>Ok.ret ⟨h3,h3',hy⟩
     have:=hw (by simpa using c)
     exact ⟨this.1,by rw [this.2];exact h3',hy⟩
   ·simp only [Fl.elim]
    exact ⟨⟨by omega,by omega,hj⟩,by omega⟩
  ·have r3:(r.1.length:Int)≤2:=by omega
   exact ⟨hz.1,by show z.1≤8;omega,⟨by show r.1.length≤8;omega,by simp,r2,by simp,by simp⟩,r1',hz.2.2⟩
end Go.Ab
namespace Go.Ab
open Go.Proofs
def FlOK (f:GFleet):Prop:=(f.Slots=1∨f.Slots=2)∧1≤f.Consumers.length∧f.Consumers.length≤8∧∀c∈f.Consumers,0≤c.Pool∧c.Pool≤7
def bOK (dual:Bool) (kn x:Int):Prop:=x=1∨kn=3∧(x=2∨x=3∧dual=true)
def unOK (c:GConsumer) (kn:Int) (u:GUnit):Prop:=bOK c.Dual kn u.Stored∧(u.Up=false→u.Used=0)∧(u.Up=true→bOK c.Dual kn u.Used∧(c.Live=true→u.Used=u.Stored))
def RoOK (f:GFleet) (s:GRotation):Prop:=FlOK f∧(s.Known=1∨s.Known=3)∧(s.Valid=1∨s.Known=3∧(s.Valid=2∨s.Valid=3∧f.Slots=2))∧s.Units.length=f.Consumers.length ∧
 ∀k,k<s.Units.length→unOK (f.Consumers.getD k default) s.Known (s.Units.getD k default)
theorem an11:bits .andNot .i64 1 1=0:=by decide
theorem an13:bits .andNot .i64 1 3=0:=by decide
theorem an23:bits .andNot .i64 2 3=0:=by decide
theorem an33:bits .andNot .i64 3 3=0:=by decide
theorem or12:bits .or .i64 1 2=3:=by decide
theorem or32:bits .or .i64 3 2=3:=by decide
theorem and12:bits .and .i64 1 2=0:=by decide
theorem rin32 (x a b:Int):F_c x a b=some (decide (a≤x)&&decide (x≤b)):=rfl
theorem rvalid32 {f:GFleet} (h:FlOK f):F_u f=some true:=by
 obtain ⟨h1,h2,h3,h4⟩:=h
 unfold F_u
 have e1:(decide (1≤f.Slots)&&decide (f.Slots≤2))=true:=bnd2.2 (by omega)
 have e2:(decide ((1:Int)≤f.Consumers.length)&&decide ((f.Consumers.length:Int)≤8))=true:=bnd2.2 (by omega)
 simp only [rin32,xX,e1,e2,wY,vJ]
 rw [forL_find (fun _=>(none:Option Bool)) f.Consumers 0 fun k a ha=>?_]
 ·rw [findL_all (p:=fun _=>True) (y:=true) fun _ _=>by simp,if_pos (fun _ _=>trivial)];rfl
 ·unfold F_5x
  rw [rin32,xX,bnd2.2 (h4 a ha)];rfl
theorem bits_ok {c:GConsumer} {s:GRotation} {x:Int} (hk:s.Known=1∨s.Known=3) (h:bOK c.Dual s.Known x):F_1d c s x=some true:=by
 unfold F_1d
 have e1:(decide (1≤x)&&decide (x≤3))=true:=bnd2.2 (by rcases h with h|⟨_,h|⟨h,_⟩⟩<;>omega)
 rw [rin32,xX,e1]
 simp only [jn,grp,vL,xX]
 rcases h with rfl|⟨hk,rfl|⟨rfl,hd⟩⟩
 ·rcases hk with hk|hk<;>rw [hk]
  ·rw [an11];rfl
  ·rw [an13];rfl
 ·rw [hk,an23];rfl
 ·rw [hk,an33,hd];rfl
theorem rright32 {f:GFleet} {s:GRotation} (h:RoOK f s):F_1e f s=some true:=by
 obtain ⟨hf,hk,hv,hl,hu⟩:=h
 unfold F_1e
 rw [rvalid32 hf,xX]
 have e1:((!decide (s.Known=1))&&(!decide (s.Known=3)))=false:=by rcases hk with hk|hk<;>rw [hk]<;>rfl
 have e2:(decide (1≤s.Valid)&&decide (s.Valid≤3))=true:=bnd2.2 (by rcases hv with h|⟨_,h|⟨h,_⟩⟩<;>omega)
 have e3:(!decide ((bits .andNot .i64 s.Valid s.Known)=0)||(decide (s.Valid=3)&&decide (f.Slots=1)))=false:=by
  rcases hv with h|⟨h',h|⟨h,h''⟩⟩
  ·rcases hk with hk|hk<;>rw [h,hk]
   ·rw [an11];rfl
   ·rw [an13];rfl
  ·rw [h,h',an23];rfl
  ·rw [h,h',an33,h''];rfl
 have e4:(!decide ((s.Units.length:Int)=(f.Consumers.length:Int)))=false:=by rw [hl];simp
 simp only [jn,grp,wY,wZ,e1,vJ,rin32,xX,e2,e3,e4,Fl.elim]
 refine Ok.eq (Ok.bind (Ok.forI (all:=s.Units) (Q:=fun y=>y=Fl.nx ()) (fun _ _=>True) s.Units [] 0 () rfl rfl trivial (fun pre u q x hw _=>?_) fun _ _=>rfl) fun y hy=>by rw [hy];exact Ok.ret rfl)
 have hp:pre.length<s.Units.length:=by rw [hw];simp
 have hx:s.Units.getD pre.length default=u:=by rw [hw];simp
 obtain ⟨u1,u2,u3⟩:=hu _ hp
 rw [hx] at u1 u2 u3
 unfold F_60
 refine Ok.chk (inb_iff.2 ⟨by omega,by omega⟩) ?_
 rw [xU,bits_ok hk u1,xX]
 cases hup:u.Up with
 | false =>
  rw [u2 hup]
  exact Ok.ret trivial
 | true =>
  obtain ⟨u4,u5⟩:=u3 hup
  rw [bits_ok hk u4]
  cases hl2:(f.Consumers.getD pre.length default).Live with
  | false=>exact Ok.ret trivial
  | true=>rw [u5 hl2];simp only [grp,wY,wZ,Bool.false_and,vJ,vL,xX,Bool.true_and,decide_true];exact Ok.ret trivial
theorem kind33 {f:GFleet} {x:GStep} (hl:1≤f.Consumers.length):Ok (F_2e f x) fun y=>y=true→0≤x.Unit∧x.Unit<f.Consumers.length:=by
 unfold F_2e
 refine Ok.jn (P:=fun _=>True) ?_ fun j _=>?_
 ·refine Ok.ite (fun _=>Ok.ret trivial) fun _=>Ok.ite (fun _=>Ok.ret trivial) fun _=>Ok.ite (fun _=>Ok.ret trivial) fun _=>Ok.ret trivial
 ·refine Ok.ite (fun _=>Ok.ret fun e=>?_) fun _=>?_
  ·have e:x.Unit=0:=by simpa using e
   omega
  ·refine Ok.jn (P:=fun _=>True) ?_ fun j _=>?_
   ·refine Ok.ite (fun _=>Ok.ret trivial) fun _=>Ok.ite (fun _=>Ok.ret trivial) fun _=>Ok.ite (fun _=>Ok.ret trivial) fun _=>Ok.ret trivial
   ·refine Ok.ite (fun _=>Ok.grp (Ok.ret fun e=>?_)) fun _=>Ok.ret fun e=>by cases e
    simpa using e
theorem and2_ne {k:Int} (h:k=1∨k=3):(!decide ((bits .and .i64 k 2)=0))=true→k=3:=by
 rcases h with rfl|rfl
 ·rw [and12];intro h;simp at h
 ·intro _;rfl
theorem set_ok {f:GFleet} {s:GRotation} (h:RoOK f s) {n:Nat} (hn:n<s.Units.length) {u:GUnit} (hu:unOK (f.Consumers.getD n default) s.Known u):RoOK f ⟨s.Known,s.Valid,s.Units.set n u⟩:=by
 obtain ⟨hf,hk,hv,hl,ho⟩:=h
 refine ⟨hf,hk,hv,by simpa using hl,fun k hk=>?_⟩
 simp only [List.length_set] at hk
 by_cases e:n=k
 ·subst e
  have:(s.Units.set n u).getD n default=u:=by simp [zE,hk]
  rw [this];exact hu
 ·have:(s.Units.set n u).getD k default=s.Units.getD k default:=by simp [zE,xP,e]
  rw [this];exact ho k hk
theorem unOK_mono {c:GConsumer} {k:Int} {u:GUnit} (h:unOK c k u):unOK c 3 u:=by
 have up:∀{x},bOK c.Dual k x→bOK c.Dual 3 x:=fun h=>h.imp id fun h=>⟨rfl,h.2⟩
 exact ⟨up h.1,h.2.1,fun hu=>⟨up (h.2.2 hu).1,(h.2.2 hu).2⟩⟩
theorem do33 {f:GFleet} {s:GRotation} {x:GStep} (h:RoOK f s) (h0:0≤x.Unit) (h1:x.Unit<f.Consumers.length):Ok (F_2g f s x) fun y=>y.2=true→RoOK f y.1:=by
 have h':=h
 obtain ⟨hf,hk,hv,hl,ho⟩:=h
 have hn:x.Unit.toNat<s.Units.length:=by omega
 obtain ⟨u1,u2,u3⟩:=ho _ hn
 unfold F_2g F_2f
 have l8:=hf.2.2.1
 rw [chk_true (room_sm (by omega)),xX]
 simp only
 refine Ok.chk (inb_iff.2 ⟨h0,by omega⟩) (Ok.chk (inb_iff.2 ⟨h0,h1⟩) ?_)
 generalize hU:s.Units.getD x.Unit.toNat default=U at *
 generalize hC:f.Consumers.getD x.Unit.toNat default=C at *
 obtain ⟨D,hD⟩:∃D:GUnit→Prop,D=fun V=>bOK C.Dual s.Known V.Stored∧(V.Up=false→V.Used=0)∧(V.Up=true→C.Live=true∨bOK C.Dual s.Known V.Used):=⟨_,rfl⟩
 refine Ok.jn (P:=fun o:Fl (Bool×GUnit) (GRotation×Bool)=>o.elim (fun j=>j.1=true→D j.2) fun r=>r.2=true→RoOK f r.1) ?_ fun o hO=>?_
 ·refine Ok.ite (fun _=>Ok.ret fun e=>?_) fun _=>Ok.ite (fun _=>Ok.grp (Ok.grp (Ok.ret fun e=>?_))) fun _=>Ok.ite (fun _=>Ok.grp (Ok.ret fun e=>?_)) fun _=>Ok.ite (fun _=>Ok.ret fun e=>?_) fun _=>Ok.ite (fun _=>?_) fun _=>Ok.ite (fun _=>Ok.ret fun e=>?_) fun _=>Ok.ite (fun _=>Ok.ret fun e=>?_) fun _=>Ok.ite (fun _=>Ok.ret fun e=>?_) fun _=>Ok.ret fun e=>by cases e
  · -- make
   have hor:bits .or .i64 s.Known 2=3:=by rcases hk with hk|hk<;>rw [hk];exact or12;exact or32
   refine ⟨hf,.inr hor,?_,hl,fun k hk=>?_⟩
   ·rcases hv with hv|hv
    ·exact .inl hv
    ·exact .inr ⟨hor,hv.2⟩
   ·simp only [hor];exact unOK_mono (ho k hk)
  · -- enable
   simp only [wD] at e
   obtain ⟨⟨e1,e2⟩,e3⟩:=e
   have e1:=and2_ne hk e1
   have e2:s.Valid=1:=by simpa using e2
   have e3:f.Slots=2:=by simpa using e3
   refine ⟨hf,hk,.inr ⟨e1,.inr ⟨?_,e3⟩⟩,hl,ho⟩
   simp only [e2];exact or12
  · -- swap
   simp only [wD] at e
   exact ⟨hf,hk,.inr ⟨and2_ne hk e.1,.inl rfl⟩,hl,ho⟩
  · -- revoke
   have e:s.Valid=3:=by simpa using e
   refine ⟨hf,hk,.inr ⟨?_,.inl rfl⟩,hl,ho⟩
   rcases hv with hv|hv
   ·omega
   ·exact hv.1
  · -- give
   refine Ok.jn (P:=fun j:Bool=>j=true→s.Known=3) (Ok.ite (fun c=>Ok.ret fun _=>and2_ne hk c) fun _=>Ok.ret fun e=>by cases e) fun j hj=>?_
   refine Ok.ite (fun c=>Ok.ret fun e=>?_) fun c=>Ok.ret fun e=>?_
   ·rw [hD]
    exact ⟨.inr ⟨hj e,.inr ⟨rfl,c⟩⟩,u2,fun hu=>.inr (u3 hu).1⟩
   ·rw [hD]
    exact ⟨.inr ⟨hj e,.inl rfl⟩,u2,fun hu=>.inr (u3 hu).1⟩
  · -- drop
   have e:U.Stored=3:=by simpa using e
   have hk3:s.Known=3:=by
    rcases u1 with u1|u1
    ·omega
    ·exact u1.1
   rw [hD]
   exact ⟨.inr ⟨hk3,.inl rfl⟩,u2,fun hu=>.inr (u3 hu).1⟩
  · -- stop
   rw [hD]
   exact ⟨u1,fun _=>rfl,fun hu=>by cases hu⟩
  · -- start
   rw [hD]
   exact ⟨u1,fun hu=>(by cases hu),fun _=>.inr u1⟩
 ·cases o with
  | ex r=>exact Ok.ret hO
  | nx j =>
   simp only [Fl.elim] at hO ⊢
   refine Ok.jn (P:=fun V:GUnit=>j.1=true→unOK C s.Known V) (Ok.grp (Ok.ite (fun c=>Ok.ret fun e=>?_) fun c=>Ok.ret fun e=>?_)) fun V hV=>Ok.chk (inb_iff.2 ⟨h0,by omega⟩) (Ok.ret fun e=>set_ok h' hn (by rw [hC];exact hV e))
   ·have:=hO e
    rw [hD] at this
    simp only [wD] at c
    exact ⟨this.1,fun hu=>(by rw [c.2] at hu;cases hu),fun _=>⟨this.1,fun _=>rfl⟩⟩
   ·have:=hO e
    rw [hD] at this
    refine ⟨this.1,this.2.1,fun hu=>⟨?_,fun hl=>?_⟩⟩
    ·rcases this.2.2 hu with hl|hb
     ·rw [hl,hu] at c;cases c
     ·exact hb
    ·rw [hl,hu] at c;cases c
theorem apply33 {f:GFleet} {s:GRotation} {x:GStep} (h:RoOK f s):Ok (F_4 f s x) fun y=>y.2=0→RoOK f y.1:=by
 unfold F_4
 rw [rright32 h,xX]
 simp only [wY,vJ]
 refine Ok.bind (kind33 h.1.2.1) fun k hk=>Ok.ite (fun _=>Ok.ret fun e=>by simp at e) fun c=>?_
 have hu:=hk (by simpa using c)
 refine Ok.bind (do33 h hu.1 hu.2) fun y hy=>Ok.ite (fun _=>Ok.ret fun e=>by simp at e) fun c=>Ok.ret fun _=>hy (by simpa using c)
theorem units32 {f:GFleet} (h:FlOK f) (p:Int):F_7 f p=some (idxs (fun c:GConsumer=>decide (c.Pool=p)) 0 f.Consumers):=by
 unfold F_7
 rw [rvalid32 h,xX]
 simp only [wY,vJ]
 rw [show (0:Int)=((0:Nat):Int) from rfl,push_idxs (fun c:GConsumer=>decide (c.Pool=p)) 24 (by omega) f.Consumers 0 [] (by have:=h.2.2.1;simp;omega) fun k a x ha hx=>?_]
 ·rfl
 ·unfold F_5y
  cases decide (a.Pool=p) with
  | false=>rfl
  | true=>simp only [vL];rw [chk_true (room_sm (by simp;omega))]
theorem pools32 {f:GFleet} (h:FlOK f):Ok (F_2h f) fun y=>y.length≤8:=by
 unfold F_2h
 refine Ok.bind (Ok.loop (Q:=fun y:List Int=>y.length≤8) (fun x=>0≤x.1∧x.1≤8∧(x.2.length:Int)≤x.1) (fun x=>(8 - x.1).toNat) (fun x hx=>?_) _ ⟨by show (0:Int)≤0;omega,by show (0:Int)≤8;omega,by show ((0:Nat):Int)≤0;omega⟩) fun r hr=>Ok.ret hr
 obtain ⟨k,out⟩:=x
 obtain ⟨h1,h2,h3⟩:=hx
 simp only at h1 h2 h3
 unfold F_50
 refine Ok.ite (fun c=>?_) fun c=>Ok.ret (by show out.length≤8;omega)
 have c:k≤7:=by simpa using c
 refine Ok.jn (P:=fun j:List Int=>j.length≤out.length+1) ?_ fun j hj=>Ok.chk (in64_sm (by simp only;omega) (by simp only;omega)) (Ok.ret ⟨⟨by show 0≤k+1;omega,by show k+1≤8;omega,by show (j.length:Int)≤k+1;omega⟩,by show (8 - (k+1)).toNat<(8 - k).toNat;omega⟩)
 rw [units32 h,xX]
 exact Ok.ite (fun _=>Ok.chk (room_sm (by simp;omega)) (Ok.ret (by simp))) fun _=>Ok.ret (by simp)
theorem serves32 {f:GFleet} {s:GRotation} (h:RoOK f s) (u:Int):Ok (F_2i f s u) fun _=>True:=by
 unfold F_2i
 rw [rright32 h,xX]
 simp only [vL]
 have:=h.1.2.2.1
 have:=h.2.2.2.1
 refine Ok.chk (in64_sm (by omega) (by omega)) ?_
 rw [rin32,xX]
 refine Ok.ite (fun c=>?_) fun _=>Ok.ret trivial
 have c:=bnd2.1 c
 exact Ok.chk (inb_iff.2 ⟨c.1,by omega⟩) (Ok.ite (fun _=>Ok.chk (inb_iff.2 ⟨c.1,by omega⟩) (Ok.ret trivial)) fun _=>Ok.ret trivial)
theorem served32 {f:GFleet} {s:GRotation} (h:RoOK f s):Ok (F_1f f s) fun y=>y.length≤8:=by
 unfold F_1f
 refine Ok.bind (pools32 h.1) fun ps hp=>Ok.bind (Ok.foldI (all:=ps) (Q:=fun y=>y.length≤8) (fun pre x=>x.length≤pre.length) ps [] 0 [] rfl rfl (by simp) (fun pre x r q hw hq=>?_) fun y hy=>by omega) fun y hy=>Ok.ret hy
 have hl:pre.length<ps.length:=by rw [hw];simp
 unfold F_3z
 rw [units32 h.1,xX]
 refine Ok.bind (Ok.for (Q:=fun o:Fl Unit (List Int)=>o.elim (fun _=>True) fun y=>y.length≤q.length+1) (fun _=>True) _ 0 () trivial (fun k a u _ _=>?_) fun _ _=>trivial) fun o ho=>?_
 ·unfold F_3y
  exact Ok.bind (serves32 h a) fun y _=>Ok.ite (fun _=>Ok.chk (room_sm (by simp;omega)) (Ok.ret (by simp [Fl.elim]))) fun _=>Ok.ret trivial
 ·cases o with
  | nx _=>exact Ok.ret (by simp;omega)
  | ex y=>exact Ok.ret (by have:y.length≤q.length+1:=ho;simp;omega)
theorem safe33 {f:GFleet} {s t:GRotation} (h:RoOK f s) (ht:RoOK f t):Ok (F_2j f s t) fun _=>True:=by
 unfold F_2j
 refine Ok.bind (served32 ht) fun y _=>Ok.bind (served32 h) fun z _=>Ok.bind (Ok.for (Q:=fun _=>True) (fun _=>True) z 0 () trivial (fun k a u _ _=>?_) fun _ _=>trivial) fun o _=>by cases o<;>exact Ok.ret trivial
 unfold F_61
 refine Ok.bind (Ok.fold (Q:=fun _=>True) (fun _=>True) y 0 false trivial (fun k b x _ _=>Ok.ret trivial) fun _ _=>trivial) fun b _=>Ok.ite (fun _=>Ok.ret trivial) fun _=>Ok.ret trivial
theorem Safe33 {f:GFleet} {s:GRotation} {x:GStep} (h:RoOK f s):Ok (F_2k f s x) fun y=>y=true→Ok (F_4 f s x) fun z=>RoOK f z.1:=by
 unfold F_2k
 obtain ⟨y,e,hy⟩:=apply33 (x:=x) h
 rw [e,xX]
 refine Ok.jn (P:=fun j:Bool=>j=true→y.2=0) ?_ fun j hj=>Ok.ret fun e1=>⟨y,rfl,hy (hj e1)⟩
 refine Ok.ite (fun c=>Ok.bind (safe33 h (hy (by simpa using c))) fun _ _=>Ok.ret fun _=>by simpa using c) fun _=>Ok.ret fun e=>by cases e
theorem choices33 {f:GFleet} {s:GRotation} (h:RoOK f s):Ok (F_2l f s) fun l=>l.length≤64∧∀x∈l,Ok (F_4 f s x) fun z=>RoOK f z.1:=by
 have l8:=h.1.2.2.1
 unfold F_2l
 refine Ok.bind (Ok.loop (Q:=fun l:List GStep=>l.length≤64∧∀x∈l,Ok (F_4 f s x) fun z=>RoOK f z.1) (fun x=>1≤x.1∧x.1≤9∧(x.2.length:Int)≤8*(x.1 - 1)∧∀y∈x.2,Ok (F_4 f s y) fun z=>RoOK f z.1) (fun x=>(9 - x.1).toNat) (fun x hx=>?_) _ ⟨by show (1:Int)≤1;omega,by show (1:Int)≤9;omega,by show ((0:Nat):Int)≤8*(1 - 1);omega,by simp⟩) fun r hr=>Ok.ret hr
 obtain ⟨k,out⟩:=x
 obtain ⟨h1,h2,h3,h4⟩:=hx
 simp only at h1 h2 h3 h4
 unfold F_63
 refine Ok.ite (fun c=>?_) fun c=>Ok.ret ⟨by show out.length≤64;omega,h4⟩
 have c:k≤8:=by simpa using c
 refine Ok.bind (Ok.foldI (all:=f.Consumers) (Q:=fun y:List GStep=>y.length≤out.length+8∧∀x∈y,Ok (F_4 f s x) fun z=>RoOK f z.1) (fun pre y=>y.length≤out.length+pre.length∧∀x∈y,Ok (F_4 f s x) fun z=>RoOK f z.1) f.Consumers [] 0 out rfl rfl ⟨by simp,h4⟩ (fun pre a r y hw hy=>?_) fun y hy=>⟨by omega,hy.2⟩) fun y hy=>Ok.chk (in64_sm (by simp only;omega) (by simp only;omega)) (Ok.ret ⟨⟨by show 1≤k+1;omega,by show k+1≤9;omega,by show (y.length:Int)≤8*(k+1 - 1);omega,hy.2⟩,by show (9 - (k+1)).toNat<(9 - k).toNat;omega⟩)
 have hp:pre.length<f.Consumers.length:=by rw [hw];simp
 unfold F_62
 refine Ok.bind (Safe33 h) fun b hb=>Ok.ite (fun c=>Ok.chk (room_sm (by simp;omega)) (Ok.ret ⟨by simp;omega,fun x hx=>?_⟩)) fun _=>Ok.ret ⟨by simp;omega,hy.2⟩
 simp only [wK,xF] at hx
 rcases hx with hx|rfl
 ·exact hy.2 x hx
 ·exact hb c
theorem start32 {f:GFleet} (h:FlOK f):Ok (F_2d f) fun y=>RoOK f y.1:=by
 unfold F_2d
 rw [rvalid32 h,xX]
 simp only [wY,vJ]
 have l8:=h.2.2.1
 refine Ok.bind (Ok.foldI (all:=f.Consumers) (Q:=fun y:List GUnit=>y.length=f.Consumers.length∧∀u∈y,u=⟨true,1,1⟩) (fun pre y=>y.length=pre.length∧∀u∈y,u=⟨true,1,1⟩) f.Consumers [] 0 [] rfl rfl ⟨rfl,by simp⟩ (fun pre a r y hw hy=>?_) fun y hy=>hy) fun y hy=>Ok.ret ⟨h,.inl rfl,.inl rfl,hy.1,fun k hk=>?_⟩
 ·have hp:pre.length<f.Consumers.length:=by rw [hw];simp
  unfold F_5z
  refine Ok.chk (room_sm (by simp;omega)) (Ok.ret ⟨by simp;omega,fun u hu=>?_⟩)
  simp only [wK,xF] at hu
  rcases hu with hu|rfl
  ·exact hy.2 u hu
  ·rfl
 ·have hm:y.getD k default∈y:=by
   have hk:k<y.length:=hk
   simp [zE,hk]
  show unOK _ 1 (y.getD k default)
  rw [hy.2 _ hm]
  exact ⟨.inl rfl,fun hu=>(by cases hu),fun _=>⟨.inl rfl,fun _=>rfl⟩⟩
theorem held_ok {t:GTape} {f:GFleet} (h:TOK t) (hf:FlOK f):Ok (F_2q t f) fun y=>RoOK f y.1∧TOK y.2:=by
 unfold F_2q
 refine Ok.bind (start32 hf) fun y hy=>Ok.bind (next_ok h (by omega)) fun z hz=>Ok.bind (Ok.loop (Q:=fun r:Sum (GRotation×GTape) (GRotation×GTape)=>Sum.elim (fun u=>RoOK f u.1∧TOK u.2) (fun u=>RoOK f u.1∧TOK u.2) r) (fun x=>0≤x.1∧x.1≤16∧RoOK f x.2.1∧TOK x.2.2) (fun x=>x.1.toNat) (fun x hx=>?_) _ ⟨hz.1,by show z.1≤16;omega,hy,hz.2.2⟩) fun r hr=>by cases r<;>exact Ok.ret hr
 obtain ⟨k,s,t⟩:=x
 obtain ⟨h1,h2,h3,h4⟩:=hx
 simp only at h1 h2 h3 h4
 unfold F_69
 refine Ok.ite (fun c=>?_) fun c=>Ok.ret ⟨h3,h4⟩
 have c:0<k:=by simpa using c
 refine Ok.bind (choices33 h3) fun l hl=>Ok.ite (fun _=>Ok.ret ⟨h3,h4⟩) fun c1=>?_
 have c1:¬(l.length:Int)=0:=by simpa using c1
 refine Ok.bind (next_ok h4 (by omega)) fun i hi=>Ok.chk (inb_iff.2 ⟨hi.1,hi.2.1⟩) ?_
 have hm:l.getD i.1.toNat default∈l:=by
  have:i.1.toNat<l.length:=by have:=hi.1;have:=hi.2.1;omega
  simp [zE,this]
 refine Ok.bind (hl.2 _ hm) fun w hw=>Ok.chk (in64_sm (by simp only;omega) (by simp only;omega)) (Ok.ret ⟨⟨by show 0≤k - 1;omega,by show k - 1≤16;omega,hw,hi.2.2⟩,by show (k - 1).toNat<k.toNat;omega⟩)
theorem fleet_ok {t:GTape} (h:TOK t):Ok (F_1g t 3) fun y=>FlOK y.1∧TOK y.2:=by
 unfold F_1g
 refine Ok.bind (between_ok h (by omega) (by omega) (by omega)) fun a ha=>Ok.bind (between_ok ha.2.2 (by omega) (by omega) (by omega)) fun b hb=>Ok.bind (Ok.loop (Q:=fun r:Int×List GConsumer×GTape=>FlOK ⟨r.1,r.2.1⟩∧TOK r.2.2) (fun x=>0≤x.1∧(x.2.2.1.length:Int)+x.1≤3∧1≤(x.2.2.1.length:Int)+x.1∧x.2.1=a.1∧(∀c∈x.2.2.1,0≤c.Pool∧c.Pool≤7)∧TOK x.2.2.2) (fun x=>x.1.toNat) (fun x hx=>?_) _ ⟨by show 0≤b.1;omega,by show ((0:Nat):Int)+b.1≤3;omega,by show 1≤((0:Nat):Int)+b.1;omega,rfl,by simp,hb.2.2⟩) fun r hr=>Ok.ret hr
 obtain ⟨k,sl,out,t⟩:=x
 obtain ⟨h1,h2,h3,h4,h5,h6⟩:=hx
 simp only at h1 h2 h3 h4 h5 h6
 unfold F_68
 refine Ok.ite (fun c=>?_) fun c=>Ok.ret ⟨?_,h6⟩
 case refine_2 =>
  have c:¬0<k:=by simpa using c
  exact ⟨by show sl=1∨sl=2;omega,by show 1≤out.length;omega,by show out.length≤8;omega,h5⟩
 have c:0<k:=by simpa using c
 refine Ok.bind (next_ok h6 (by omega)) fun p hp=>Ok.bind (next_ok hp.2.2 (by omega)) fun q hq=>Ok.bind (next_ok hq.2.2 (by omega)) fun r hr=>Ok.chk (room_sm (by simp;omega)) (Ok.chk (in64_sm (by simp only;omega) (by simp only;omega)) (Ok.ret ⟨⟨by show 0≤k - 1;omega,by simp;omega,by simp;omega,h4,fun c hc=>?_,hr.2.2⟩,by show (k - 1).toNat<k.toNat;omega⟩))
 simp only [wK,xF] at hc
 rcases hc with hc|rfl
 ·exact h5 c hc
 ·exact ⟨hp.1,by show p.1≤7;have:=hp.2.1;omega⟩
theorem fit_ok {t:GTape} (h:TOK t):Ok (F_2p t 3) fun y=>FlOK y.1∧TOK y.2:=by
 unfold F_2p
 refine Ok.bind (fleet_ok h) fun y hy=>Ok.bind (Ok.foldI (all:=y.1.Consumers) (Q:=fun l:List GConsumer=>FlOK ⟨y.1.Slots,l⟩) (fun pre l=>FlOK ⟨y.1.Slots,l⟩∧l.length=y.1.Consumers.length) y.1.Consumers [] 0 _ rfl rfl ⟨hy.1,rfl⟩ (fun pre a r l hw hl=>?_) fun l hl=>hl.1) fun l hl=>Ok.ret ⟨hl,hy.2⟩
 obtain ⟨hf,hl⟩:=hl
 have hp:pre.length<l.length:=by rw [hl,hw];simp
 have hi:inb (pre.length:Int) l.length=true:=inb_iff.2 ⟨by omega,by omega⟩
 have set1:∀c:GConsumer,0≤c.Pool∧c.Pool≤7→FlOK ⟨y.1.Slots,l.set pre.length c⟩∧(l.set pre.length c).length=y.1.Consumers.length:=fun c hc =>
  ⟨⟨hf.1,by simpa using hf.2.1,by simpa using hf.2.2.1,fun d hd=>by
   rcases List.mem_or_eq_of_mem_set hd with hd|rfl
   ·exact hf.2.2.2 d hd
   ·exact hc⟩,by simpa using hl⟩
 have hpl:0≤(l.getD pre.length default).Pool∧(l.getD pre.length default).Pool≤7:=hf.2.2.2 _ (by simp [zE,hp])
 unfold F_41
 simp only [xU,List.length_set]
 refine Ok.chk hi ?_
 rw [units32 hf,xX]
 refine Ok.ite (fun _=>Ok.chk hi (Ok.chk hi (Ok.ite (fun _=>Ok.chk hi (Ok.ret (set1 _ hpl))) fun _=>Ok.chk hi (Ok.ret (set1 _ hpl))))) fun _=>Ok.ret ⟨hf,hl⟩
end Go.Ab
namespace Go.Ab
open Go.Proofs
theorem idx_from {α:Type} {body:Int→α→Unit→Option (Fl Unit Int)} (p:α→Bool):∀(xs:List α) (k:Int),0≤k→(∀k a,a∈xs→body k a ()=some (bif p a then .ex k else .nx ())) →
  (xs.any p=false→forL body xs k ()=some (.nx ()))∧(xs.any p=true→∃i,0≤i∧forL body xs k ()=some (.ex i))
 | [],k,hk,h=>⟨fun _=>rfl,fun e=>by simp at e⟩
 | x::r,k,hk,h=>by
  simp only [forL,h k x (by simp),xX,List.any_cons]
  cases hp:p x with
  | true=>exact ⟨fun e=>by simp at e,fun _=>⟨k,hk,rfl⟩⟩
  | false =>
   simp only [vJ,wZ]
   exact idx_from p r (k+1) (by omega) fun k a ha=>h k a (by simp [ha])
theorem cont_eq {α:Type} {body:Int→α→Unit→Option (Fl Unit Int)} (p:α→Bool) (xs:List α) (h:∀k a,a∈xs→body k a ()=some (bif p a then .ex k else .nx ())) :
  (((forL body xs 0 ()).bind fun o=>o.elim (fun _=>some (-1)) (fun r=>some r)).bind fun y:Int=>some (decide (0≤y)))=some (xs.any p):=by
 obtain ⟨h1,h2⟩:=idx_from p xs 0 (vI 0) h
 cases he:xs.any p with
 | false=>rw [h1 he];rfl
 | true =>
  obtain ⟨i,hi,e⟩:=h2 he
  rw [e]
  simp only [xX,Fl.elim]
  rw [wS hi]
def ClOK (c:GCluster):Prop:=(1≤c.Replicas.length∧c.Replicas.length≤5)∧(1≤c.Sets.length∧c.Sets.length≤121)∧c.Snapshots.length≤120∧(∀s∈c.Sets,0≤s∧s≤3) ∧
 (∀r∈c.Replicas,0≤r.Generation∧r.Generation≤(c.Sets.length:Int) - 1)∧∀g∈c.Snapshots,0≤g∧g≤(c.Sets.length:Int) - 1
theorem rin36 (x a b:Int):F_2 x a b=some (decide (a≤x)&&decide (x≤b)):=rfl
theorem pin36 (x a b:Int):F_12 x a b=some (decide (a≤x)&&decide (x≤b)):=rfl
theorem rvalid36 {c:GCluster} (h:ClOK c):F_2m c=some true:=by
 obtain ⟨h1,h2,h3,h4,h5,h6⟩:=h
 have e1:(decide ((1:Int)≤c.Replicas.length)&&decide ((c.Replicas.length:Int)≤5))=true:=bnd2.2 (by omega)
 have e2:(decide ((1:Int)≤c.Sets.length)&&decide ((c.Sets.length:Int)≤121))=true:=bnd2.2 (by omega)
 have e3:decide ((120:Int)<c.Snapshots.length)=false:=by simp;omega
 unfold F_2m
 simp only [jn,grp,rin36,xX,e1,e2,e3,wY,vJ,Bool.or_false,Fl.elim]
 rw [forL_find (fun _=>(none:Option Bool)) c.Sets 0 fun k a ha=>?_]
 ·rw [findL_all (p:=fun _=>True) (y:=true) fun _ _=>by simp,if_pos (fun _ _=>trivial),xX]
  simp only [flO]
  rw [forL_find (fun _=>(none:Option Bool)) c.Replicas 0 fun k a ha=>?_]
  ·rw [findL_all (p:=fun _=>True) (y:=true) fun _ _=>by simp,if_pos (fun _ _=>trivial),xX]
   simp only [flO]
   rw [forL_find (fun _=>(none:Option Bool)) c.Snapshots 0 fun k a ha=>?_]
   ·rw [findL_all (p:=fun _=>True) (y:=true) fun _ _=>by simp,if_pos (fun _ _=>trivial)];rfl
   ·unfold F_67
    rw [chk_true (in64_sm (by omega) (by omega)),rin36,xX,bnd2.2 (h6 a ha)];rfl
  ·unfold F_66
   rw [chk_true (in64_sm (by omega) (by omega)),rin36,xX,bnd2.2 (h5 a ha)];rfl
 ·unfold F_65
  rw [rin36,xX,bnd2.2 (h4 a ha)];rfl
theorem getD_mem {α:Type} [Inhabited α] {l:List α} {i:Nat} (h:i<l.length):l.getD i default∈l:=by simp [zE,h]
theorem apply36 {c:GCluster} {x:GReplicaEvent} (h:ClOK c):Ok (F_2o c x) fun y=>y.2=0→ClOK y.1:=by
 have h':=h
 obtain ⟨h1,h2,h3,h4,h5,h6⟩:=h
 unfold F_2o
 rw [rvalid36 h',xX]
 simp only [wY,vJ]
 unfold F_2n
 rw [chk_true (room_sm (by omega)),chk_true (room_sm (by omega)),chk_true (room_sm (by omega)),xX]
 simp only
 have err:∀{α β:Type} {e:Int} (he:e≠0) {P:α→Prop},Ok (some (Fl.ex (GCluster.mk false [] [] [],e):Fl α (GCluster×Int))) fun o=>o.elim P fun r=>r.2=0→ClOK r.1:=fun {α β e} he {P}=>Ok.ret fun h0=>absurd h0 he
 refine Ok.jn (P:=fun o:Fl GReplicaEvent (GCluster×Int)=>o.elim (fun _=>True) fun r=>r.2=0→ClOK r.1) ?_ fun o ho=>?_
 ·refine Ok.ite (fun _=>?_) fun _=>?_
  ·refine Ok.ite (fun _=>err (β:=Unit) (by decide)) fun _=>?_
   rw [rin36,xX]
   refine Ok.ite (fun _=>err (β:=Unit) (by decide)) fun c1=>Ok.ite (fun _=>err (β:=Unit) (by decide)) fun c2=>Ok.chk (room_sm (by simp;omega)) (Ok.ret fun _=>?_)
   have c1:0≤x.Bits∧x.Bits≤3:=bnd2.1 (by simpa using c1)
   have c2:¬(120:Int)<c.Sets.length:=by simpa using c2
   refine ⟨h1,⟨by simp,by simp;omega⟩,h3,fun s hs=>?_,fun r hr=>?_,fun g hg=>?_⟩
   ·simp only [wK,xF] at hs
    rcases hs with hs|rfl
    ·exact h4 s hs
    ·exact c1
   ·have:=h5 r hr;simp;omega
   ·have:=h6 g hg;simp;omega
  ·refine Ok.jn (P:=fun _=>True) (Ok.ite (fun _=>Ok.ret trivial) fun _=>Ok.ret trivial) fun j _=>Ok.ite (fun _=>Ok.ret trivial) fun _=>Ok.ite (fun _=>Ok.ret trivial) fun _=>Ok.ret trivial
 ·cases o with
  | ex r=>exact Ok.ret ho
  | nx j =>
   simp only [Fl.elim]
   refine Ok.jn (P:=fun o:Fl Unit (GCluster×Int)=>o.elim (fun _=>(2≤x.Kind∧x.Kind≤4)∧(0≤x.Replica∧x.Replica≤(c.Replicas.length:Int) - 1)∧(x.Kind=4→0≤x.Snapshot∧x.Snapshot≤(c.Snapshots.length:Int) - 1)) fun r=>r.2=0→ClOK r.1) ?_ fun o ho=>?_
   ·refine Ok.ite (fun _=>err (β:=Unit) (by decide)) fun _=>?_
    rw [rin36,xX]
    refine Ok.ite (fun _=>err (β:=Unit) (by decide)) fun c1=>Ok.chk (in64_sm (by omega) (by omega)) ?_
    have c1:2≤x.Kind∧x.Kind≤4:=bnd2.1 (by simpa using c1)
    rw [rin36,xX]
    refine Ok.ite (fun _=>err (β:=Unit) (by decide)) fun c2=>?_
    have c2:=bnd2.1 (by simpa using c2)
    refine Ok.ite (fun c3=>Ok.chk (in64_sm (by omega) (by omega)) ?_) fun c3=>Ok.ret ⟨c1,c2,fun e=>by rw [e] at c3;simp at c3⟩
    rw [rin36,xX]
    refine Ok.ite (fun _=>err (β:=Unit) (by decide)) fun c4=>Ok.ret ⟨c1,c2,fun _=>bnd2.1 (by simpa using c4)⟩
   ·cases o with
    | ex r=>exact Ok.ret ho
    | nx u =>
     obtain ⟨k1,k2,k3⟩:=ho
     simp only
     have hr:x.Replica.toNat<c.Replicas.length:=by omega
     refine Ok.chk (inb_iff.2 ⟨k2.1,by omega⟩) (Ok.jn (P:=fun o:Fl (Bool×List GReplica×List Int) (GCluster×Int)=>o.elim (fun j=>ClOK ⟨j.1,c.Sets,j.2.1,j.2.2⟩) fun r=>r.2=0→ClOK r.1) ?_ fun o ho=>by cases o with|nx j=>exact Ok.ret fun _=>ho|ex r=>exact Ok.ret ho)
     have setR:∀(b:Bool) (q:GReplica),0≤q.Generation∧q.Generation≤(c.Sets.length:Int) - 1→ClOK ⟨b,c.Sets,c.Replicas.set x.Replica.toNat q,c.Snapshots⟩:=fun b q hq=>by
      refine ⟨by simpa using h1,h2,h3,h4,fun r hr=>?_,h6⟩
      rcases List.mem_or_eq_of_mem_set hr with hr|rfl
      ·exact h5 r hr
      ·exact hq
     refine Ok.ite (fun c1=>Ok.chk (in64_sm (by omega) (by omega)) (Ok.ret (setR _ _ ⟨by show (0:Int)≤(c.Sets.length:Int) - 1;omega,vI _⟩))) fun c1=>Ok.ite (fun c2=>?_) fun c2=>?_
     ·refine Ok.ite (fun _=>err (β:=Unit) (by decide)) fun c3=>Ok.chk (room_sm (by simp;omega)) (Ok.ret ⟨h1,h2,?_,h4,h5,fun g hg=>?_⟩)
      ·have c3:¬(120:Int)≤c.Snapshots.length:=by simpa using c3
       simp;omega
      ·simp only [wK,xF] at hg
       rcases hg with hg|rfl
       ·exact h6 g hg
       ·exact h5 _ (getD_mem hr)
     ·have c1:¬x.Kind=2:=by simpa using c1
      have c2:¬x.Kind=3:=by simpa using c2
      have:=k3 (by omega)
      exact Ok.chk (inb_iff.2 ⟨this.1,by omega⟩) (Ok.ret (setR _ _ (h6 _ (getD_mem (by omega)))))
theorem event_ok {t:GTape} {c:GCluster} (h:TOK t) (hc:ClOK c):Ok (F_2r t c) fun y=>TOK y.2:=by
 obtain ⟨h1,h2,h3,_⟩:=hc
 unfold F_2r
 refine Ok.bind (between_ok h (by omega) (by omega) (by omega)) fun y hy=>Ok.ite (fun _=>Ok.bind (pick_ok hy.2.2 (by simp)) fun z hz=>Ok.ret hz.2) fun _=>Ok.ite (fun _=>Ok.bind (next_ok hy.2.2 (by omega)) fun z hz=>Ok.chk (in64_sm (by omega) (by omega)) (Ok.bind (next_ok hz.2.2 (by omega)) fun w hw=>Ok.ret hw.2.2)) fun _=>Ok.bind (next_ok hy.2.2 (by omega)) fun z hz=>Ok.ret hz.2.2
theorem cluster_ok {t:GTape} (h:TOK t):Ok (F_2s t) fun y=>ClOK y.1∧TOK y.2:=by
 unfold F_2s
 refine Ok.bind (between_ok h (by omega) (by omega) (by omega)) fun a ha=>Ok.bind (pick_ok ha.2.2 (by simp)) fun b hb=>Ok.bind (next_ok hb.2 (by omega)) fun d hd=>Ok.bind (P:=fun y:GCluster×Int=>ClOK y.1) ?_ fun y hy=>Ok.bind (next_ok hd.2.2 (by omega)) fun e he=>Ok.bind (Ok.loop (Q:=fun r:GCluster×GTape=>ClOK r.1∧TOK r.2) (fun x=>0≤x.1∧x.1≤12∧ClOK x.2.1∧TOK x.2.2) (fun x=>x.1.toNat) (fun x hx=>?_) _ ⟨he.1,by show e.1≤12;omega,hy,he.2.2⟩) fun r hr=>Ok.ret hr
 ·have hb0:0≤b.1∧b.1≤3:=by have:=hb.1;simp only [wW,List.not_mem_nil,or_false] at this;omega
  unfold F_40
  rw [rin36,xX,bnd2.2 (by omega),rin36]
  simp only [wY,vJ,xX]
  rw [bnd2.2 hb0]
  simp only [wY,vJ]
  refine Ok.bind (Ok.loop (Q:=fun r:Bool×List GReplica=>(r.2.length:Int)=a.1∧∀q∈r.2,q=⟨0,true⟩) (fun x=>x.1=x.2.2.length∧x.1≤a.1∧∀q∈x.2.2,q=⟨0,true⟩) (fun x=>(a.1 - x.1).toNat) (fun x hx=>?_) _ ⟨rfl,by show (0:Int)≤a.1;omega,by simp⟩) fun r hr=>Ok.ret ⟨⟨by show 1≤r.2.length;omega,by show r.2.length≤5;omega⟩,⟨by simp,by simp⟩,by simp,fun s hs=>(by simp only [xF] at hs;subst hs;exact hb0),fun q hq=>(by rw [hr.2 q hq];simp),by simp⟩
  obtain ⟨k,f,out⟩:=x
  obtain ⟨q1,q2,q3⟩:=hx
  simp only at q1 q2 q3
  unfold F_64
  refine Ok.ite (fun c=>?_) fun c=>Ok.ret ⟨?_,q3⟩
  ·have c:k<a.1:=by simpa using c
   refine Ok.chk (room_sm (by simp;omega)) (Ok.chk (in64_sm (by simp only;omega) (by simp only;omega)) (Ok.ret ⟨⟨by simp;omega,by show k+1≤a.1;omega,fun q hq=>?_⟩,by show (a.1 - (k+1)).toNat<(a.1 - k).toNat;omega⟩))
   simp only [wK,xF] at hq
   exact hq.elim (q3 q) id
  ·have c:¬k<a.1:=by simpa using c
   show (out.length:Int)=a.1;omega
 ·obtain ⟨k,c,t⟩:=x
  obtain ⟨q1,q2,q3,q4⟩:=hx
  simp only at q1 q2 q3 q4
  unfold F_6a
  refine Ok.ite (fun hk=>?_) fun _=>Ok.ret ⟨q3,q4⟩
  have hk:0<k:=by simpa using hk
  refine Ok.jn (P:=fun j:GCluster×GTape=>ClOK j.1∧TOK j.2) (Ok.bind (event_ok q4 q3) fun y hy=>Ok.bind (apply36 q3) fun z hz=>Ok.ite (fun c=>Ok.ret ⟨hz (by simpa using c),hy⟩) fun _=>Ok.ret ⟨q3,hy⟩) fun j hj=>Ok.chk (in64_sm (by simp only;omega) (by simp only;omega)) (Ok.ret ⟨⟨by show 0≤k - 1;omega,by show k - 1≤12;omega,hj⟩,by show (k - 1).toNat<k.toNat;omega⟩)
theorem pcheck36 {c:GCluster} (h:ClOK c):F_1z c=some 0:=by
 obtain ⟨h1,h2,h3,h4,h5,h6⟩:=h
 have e1:(decide ((1:Int)≤c.Replicas.length)&&decide ((c.Replicas.length:Int)≤5))=true:=bnd2.2 (by omega)
 have e2:(decide ((1:Int)≤c.Sets.length)&&decide ((c.Sets.length:Int)≤121))=true:=bnd2.2 (by omega)
 have e3:decide ((120:Int)<c.Snapshots.length)=false:=by simp;omega
 have a1:F_1y c.Sets=some false:=by
  unfold F_1y F_4o
  rw [cont_eq (fun _=>false) c.Sets fun k a ha=>?_]
  ·simp
  ·unfold F_6z F_4n
   rw [pin36,xX,bnd2.2 (h4 a ha)];rfl
 have one:∀g,0≤g∧g≤(c.Sets.length:Int) - 1→F_3 g c=some false:=fun g hg=>by
  unfold F_3
  rw [chk_true (in64_sm (by omega) (by omega)),pin36,xX,bnd2.2 hg];rfl
 have a2:F_13 c.Snapshots c=some false:=by
  unfold F_13 F_4p
  rw [cont_eq (fun _=>false) c.Snapshots fun k a ha=>?_]
  ·simp
  ·unfold F_70
   rw [one a (h6 a ha)];rfl
 have a3:F_14 c.Replicas c=some false:=by
  unfold F_14 F_4r
  rw [cont_eq (fun _=>false) c.Replicas fun k a ha=>?_]
  ·simp
  ·unfold F_71 F_4q
   rw [one a.Generation (h5 a ha)];rfl
 unfold F_1z
 simp only [pin36,xX,e1,e2,e3,grp,wY,vJ,Bool.or_false,a1,a2,a3]
def hasB (c:GCluster) (g bit:Int):Bool:=!decide (bits .and .i64 (c.Sets.getD g.toNat default) bit=0)
def accB (c:GCluster) (bit:Int) (r:GReplica):Bool:=r.Serving&&hasB c r.Generation bit
def deadB (c:GCluster) (bit:Int):Bool:=!hasB c ((c.Sets.length:Int) - 1) bit&&!c.Replicas.any (accB c bit)
theorem has36 {c:GCluster} {g:Int} (hg:0≤g∧g≤(c.Sets.length:Int) - 1) (bit:Int):F_21 c g bit=some (hasB c g bit):=by
 unfold F_21
 rw [chk_true (inb_iff.2 ⟨hg.1,by omega⟩)];rfl
theorem pdead36 {c:GCluster} (h:ClOK c) {bit:Int} (hb:bit=1∨bit=2):F_3u c bit=some (deadB c bit):=by
 have hc:=pcheck36 h
 obtain ⟨h1,h2,h3,h4,h5,h6⟩:=h
 have hs:F_3t c bit=some (c.Replicas.any (accB c bit)):=by
  unfold F_3t F_3s F_4w
  rw [cont_eq (accB c bit) c.Replicas fun k a ha=>?_]
  ·rfl
  ·unfold F_72 F_4v F_4u
   rw [has36 (h5 a ha)]
   unfold accB
   cases a.Serving with
   | false=>rfl
   | true=>cases hasB c a.Generation bit<;>rfl
 unfold F_3u F_4t
 have e:(decide (bit=1)||decide (bit=2))=true:=by simpa using hb
 rw [hc,xX,has36 ⟨by omega,vI _⟩,hs]
 simp only [decide_true,vL,grp,e,xX,jn,chk_true (in64_sm (n:=(c.Sets.length:Int) - 1) (by omega) (by omega))]
 unfold deadB
 cases hasB c ((c.Sets.length:Int) - 1) bit<;>rfl
theorem pcheck32 {f:GFleet} (h:FlOK f):F_3p f=some 0:=by
 obtain ⟨h1,h2,h3,h4⟩:=h
 have a1:F_3o f.Consumers=some false:=by
  unfold F_3o F_4m
  rw [cont_eq (fun _=>false) f.Consumers fun k a ha=>?_]
  ·simp
  ·unfold F_6x F_11
   have:=h4 a ha
   have e:(decide (a.Pool<0)||decide (7<a.Pool))=false:=by simp;omega
   simp only [grp,e,xX];rfl
 unfold F_3p
 have e1:(((!decide (f.Slots=1))&&(!decide (f.Slots=2))||decide ((f.Consumers.length:Int)<1))||decide ((8:Int)<f.Consumers.length))=false:=by simp;omega
 simp only [grp,e1,vJ,a1,xX]
theorem pbits_ok {dual:Bool} {kn x:Int} (hk:kn=1∨kn=3) (h:bOK dual kn x):F_p x kn dual=some true:=by
 unfold F_p
 have e1:(decide (0<x)&&decide (x≤3))=true:=by simp;rcases h with h|⟨_,h|⟨h,_⟩⟩<;>omega
 simp only [jn,grp,e1,vL,xX]
 rcases h with rfl|⟨hk,rfl|⟨rfl,hd⟩⟩
 ·rcases hk with hk|hk<;>rw [hk]
  ·rw [an11];cases dual<;>rfl
  ·rw [an13];cases dual<;>rfl
 ·rw [hk,an23];cases dual<;>rfl
 ·rw [hk,an33,hd];rfl
theorem punit_ok {c:GConsumer} {u:GUnit} {kn:Int} (hk:kn=1∨kn=3) (h:unOK c kn u):F_3q c u kn=some true:=by
 obtain ⟨u1,u2,u3⟩:=h
 unfold F_3q
 rw [pbits_ok hk u1,xX]
 cases hup:u.Up with
 | false=>rw [u2 hup];rfl
 | true =>
  obtain ⟨u4,u5⟩:=u3 hup
  rw [pbits_ok hk u4]
  simp only [wY,vJ,xX,grp,Bool.true_and]
  cases hl:c.Live with
  | false=>rfl
  | true=>rw [u5 hl];simp
theorem pright32 {f:GFleet} {s:GRotation} (h:RoOK f s):F_1x f s=some true:=by
 obtain ⟨hf,hk,hv,hl,hu⟩:=h
 unfold F_1x
 have e1:((!decide (s.Known=1))&&(!decide (s.Known=3)))=false:=by rcases hk with hk|hk<;>rw [hk]<;>rfl
 have e2:F_p s.Valid s.Known (decide (f.Slots=2))=some true:=pbits_ok hk (hv.imp id fun h=>⟨h.1,h.2.imp id fun h=>⟨h.1,wS h.2⟩⟩)
 have e4:(!decide ((s.Units.length:Int)=(f.Consumers.length:Int)))=false:=by rw [hl];simp
 rw [pcheck32 hf,xX,e2]
 simp only [jn,grp,decide_true,wY,wZ,e1,vJ,xX,e4,Fl.elim]
 refine Ok.eq (Ok.bind (Ok.forI (all:=s.Units) (Q:=fun y=>y=Fl.nx ()) (fun _ _=>True) s.Units [] 0 () rfl rfl trivial (fun pre u q x hw _=>?_) fun _ _=>rfl) fun y hy=>by rw [hy];exact Ok.ret rfl)
 have hp:pre.length<s.Units.length:=by rw [hw];simp
 have hx:s.Units.getD pre.length default=u:=by rw [hw];simp
 have:=hu _ hp
 rw [hx] at this
 unfold F_6y
 refine Ok.chk (inb_iff.2 ⟨by omega,by omega⟩) ?_
 rw [xU,punit_ok hk this]
 exact Ok.ret trivial
def endU (u:GUnit):Bool:=(u.Up==true)&&(decide (u.Stored=2)&&decide (u.Used=2))
theorem pended32 {f:GFleet} {s:GRotation} (h:RoOK f s):F_3r f s=some (decide (s.Valid=2)&&s.Units.all endU):=by
 unfold F_3r
 rw [pright32 h,xX]
 have a1:F_20 s.Units ⟨true,2,2⟩=some (s.Units.any fun u=>!endU u):=by
  unfold F_20 F_4s
  rw [cont_eq (fun u=>!endU u) s.Units fun k a ha=>?_]
  show (bif !endU a then some (Fl.ex k) else some (Fl.nx ()))=_
  cases endU a<;>rfl
 rw [a1]
 have e:s.Units.all endU=!s.Units.any fun u=>!endU u:=by
  generalize s.Units=l
  induction l with
  | nil=>rfl
  | cons a r ih=>simp only [List.all_cons,List.any_cons,ih];cases endU a<;>rfl
 rw [e]
 simp only [grp,jn,Bool.true_and]
 cases decide (s.Valid=2)<;>rfl
theorem pright_eq {r:GRegistry} {c:GCredential} (h:r.Issuers.length≤8):F_47 r c=some (decide (crOK r.Issuers.length c)):=rfields_eq r c h
theorem named_nm {s:Str} (h:nmOK s):namedB s 40=true:=by
 obtain ⟨h1,h2,h3⟩:=h
 unfold namedB letters
 simp only [wD,wC,xM]
 exact ⟨h3,by omega,by omega⟩
theorem pheld_eq (r:GRegistry) (i h t:Int) (hn:r.Credentials.length≤24):F_39 r i h t=some (hldL r.Credentials i h t):=by
 unfold F_39
 rw [show (0:Int)=((0:Nat):Int) from rfl,push_idxs (hdB i h t) 24 (by omega) r.Credentials 0 [] (by simpa using hn) fun k a x ha hx=>?_]
 ·rfl
 ·unfold F_6i F_4a
  simp only [grp,hdB,jn,xX]
  cases (decide (a.Issuer=i)&&decide (a.Holder=h)) with
  | false=>rfl
  | true =>
   simp only [vL,xX,Bool.true_and]
   cases (decide (a.From≤t)&&decide (t<a.Until)) with
   | false=>rfl
   | true=>simp only [vL];rw [chk_true (room_sm (by simp;omega))]
theorem pcheck24 {r:GRegistry} (h:RegOK r):F_1r r=some 0:=by
 obtain ⟨h1,h2,h3,h4,h5⟩:=h
 have a1:F_38 r.Issuers=some false:=by
  unfold F_38 F_46
  rw [cont_eq (fun _=>false) r.Issuers fun k a ha=>?_]
  ·simp
  ·unfold F_6g F_i namedF
   rw [named_nm (h3 a ha).1,xX,pin_eq,bnd2.2 (h3 a ha).2];rfl
 have a2:F_1q r.Credentials r=some false:=by
  unfold F_1q F_49
  rw [cont_eq (fun _=>false) r.Credentials fun k a ha=>?_]
  ·simp
  ·unfold F_6h F_48
   rw [pright_eq h1,xX,wS (h4 a ha)];rfl
 unfold F_1r
 have e:(decide ((8:Int)<r.Issuers.length)||decide ((24:Int)<r.Credentials.length))=false:=by simp;omega
 simp only [grp,e,vJ,a1,a2,xX]
 rw [forL_find (fun _=>(none:Option Int)) r.Credentials 0 fun k a ha=>?_]
 ·rw [findL_all (p:=fun _=>True) (y:=(0:Int)) fun _ _=>by simp,if_pos (fun _ _=>trivial)];rfl
 ·unfold F_4b
  obtain ⟨q1,q2,_⟩:=h4 a ha
  have:=h5 a ha
  unfold crR at this
  rw [pheld_eq r _ _ _ h2,xX,chk_true (inb_iff.2 ⟨q1,q2⟩),wF (by omega)];rfl
def finds (r:GRegistry) (fp:Int):List Int:=idxs (fun c:GCredential=>decide (c.Fingerprint=fp)) 0 r.Credentials
theorem pfind24 {r:GRegistry} (h:RegOK r) (fp:Int):F_3d r fp=some (finds r fp):=by
 unfold F_3d
 rw [pcheck24 h,xX]
 simp only [decide_true,wY,vJ]
 rw [show (0:Int)=((0:Nat):Int) from rfl,push_idxs (fun c:GCredential=>decide (c.Fingerprint=fp)) 24 (by omega) r.Credentials 0 [] (by have:=h.2.1;simpa using this) fun k a x ha hx=>?_]
 ·rfl
 ·unfold F_6m
  cases decide (a.Fingerprint=fp) with
  | false=>rfl
  | true=>simp only [vL];rw [chk_true (room_sm (by simp;omega))]
theorem mem_finds {r:GRegistry} (h:RegOK r) {fp i:Int} (hi:i∈finds r fp):0≤i∧i<24:=by
 obtain ⟨j,h1,h2,_⟩:=mem_idxs.1 hi
 have:=h.2.1
 omega
end Go.Ab
namespace Go.Ab
open Go.Proofs
def tl1 (s:GSummary) (x:GExposure):GSummary:=GSummary.mk s.Fingerprint s.Spots (s.Public||decide (x.Principal=-1)) (if x.Principal=-1 then s.Readers else s.Readers+1) (if s.Since=-1∨x.Time<s.Since then x.Time else s.Since) s.Severity s.Rotated s.Dead
theorem tl1_eq {s:GSummary} {x:GExposure} (k:Int) (h:0≤s.Readers∧s.Readers≤1000):F_45 k x s=some (tl1 s x):=by
 unfold F_45 tl1
 by_cases c:x.Principal=-1
 ·simp only [c,decide_true,vL,jn,xX,Bool.or_true,if_true]
  by_cases c1:s.Since=-1
  ·simp [c1]
  ·by_cases c2:x.Time<s.Since
   ·simp [c1,c2]
   ·simp [c1,c2]
 ·simp only [c,decide_false,vJ,jn,chk_true (in64_sm (n:=s.Readers+1) (by omega) (by omega)),xX,Bool.or_false,if_false]
  by_cases c1:s.Since=-1
  ·simp [c1]
  ·by_cases c2:x.Time<s.Since
   ·simp [c1,c2]
   ·simp [c1,c2]
theorem tl_fold:∀(l:List GExposure) (k:Int) (s:GSummary),0≤s.Readers→s.Readers+l.length≤1000→foldL F_45 l k s=some (l.foldl tl1 s)
 | [],k,s,h,h'=>rfl
 | x::r,k,s,h,h'=>by
  simp only [x8] at h'
  simp only [foldL,tl1_eq k (show 0≤s.Readers∧s.Readers≤1000 by omega),xX,wN]
  refine tl_fold r (k+1) _ ?_ ?_
  ·show 0≤ite _ _ _;split<;>omega
  ·show ite _ _ _+(r.length:Int)≤1000;split<;>omega
def rdrs (l:List GExposure):List GExposure:=l.filter fun x=>decide (x.Principal≠-1)
def leastT (l:List GExposure) (t:Int):Prop:=(l=[]∧t=-1)∨(∃x∈l,t=x.Time)∧∀x∈l,t≤x.Time
structure Tl (l:List GExposure) (m s:GSummary):Prop where
 fp:s.Fingerprint=m.Fingerprint
 sp:s.Spots=m.Spots
 sv:s.Severity=m.Severity
 ro:s.Rotated=m.Rotated
 de:s.Dead=m.Dead
 pu:s.Public=(m.Public||l.any fun x=>decide (x.Principal=-1))
 rd:s.Readers=m.Readers+(rdrs l).length
 si:leastT l s.Since
theorem tl_step {m s:GSummary} {l:List GExposure} {x:GExposure} (ih:Tl l m s) (hl:∀y∈l,0≤y.Time) (hx:0≤x.Time):Tl (l++[x]) m (tl1 s x):=by
 refine ⟨ih.fp,ih.sp,ih.sv,ih.ro,ih.de,?_,?_,?_⟩
 ·show (_||_)=_
  rw [ih.pu];simp [Bool.or_assoc]
 ·show ite _ _ _=_
  rw [ih.rd]
  by_cases c:x.Principal=-1
  ·rw [if_pos c];simp [rdrs,c]
  ·rw [if_neg c];simp [rdrs,c];omega
 ·show leastT _ (ite _ _ _)
  right
  rcases ih.si with ⟨e,e1⟩|⟨⟨y,hy,e⟩,h2⟩
  ·subst e
   rw [if_pos (.inl e1)]
   exact ⟨⟨x,by simp,rfl⟩,by simp⟩
  ·have hy0:=hl y hy
   by_cases c:s.Since=-1∨x.Time<s.Since
   ·rw [if_pos c]
    refine ⟨⟨x,by simp,rfl⟩,fun z hz=>?_⟩
    simp only [wK,xF] at hz
    rcases hz with hz|rfl
    ·have:=h2 z hz;omega
    ·exact vI _
   ·rw [if_neg c]
    refine ⟨⟨y,by simp [hy],e⟩,fun z hz=>?_⟩
    simp only [wK,xF] at hz
    rcases hz with hz|rfl
    ·exact h2 z hz
    ·omega
theorem tl_go {m:GSummary}:∀(l pre:List GExposure) (s:GSummary),Tl pre m s→(∀y∈pre,0≤y.Time)→(∀y∈l,0≤y.Time)→Tl (pre++l) m (l.foldl tl1 s)
 | [],pre,s,h,_,_=>by simpa using h
 | x::r,pre,s,h,hp,hl=>by
  rw [wN]
  have:=tl_go r (pre++[x]) _ (tl_step h hp (hl x (by simp))) (fun y hy=>by
   simp only [wK,xF] at hy
   rcases hy with hy|rfl
   ·exact hp y hy
   ·exact hl y (by simp)) fun y hy=>hl y (by simp [hy])
  simpa using this
theorem tl_props {m:GSummary} (hm:m.Since=-1) (l:List GExposure) (h:∀x∈l,0≤x.Time):Tl l m (l.foldl tl1 m):=by
 have:=tl_go l [] m ⟨rfl,rfl,rfl,rfl,rfl,by simp,by simp [rdrs],.inl ⟨rfl,hm⟩⟩ (by simp) h
 simpa using this
theorem sin_timeD {d:GDirectory} {a:GEstate} (g:GoodD d) (h:Good a) {c p t:Int} (hs:sin d a c p=some t):0≤t∧t≤1099511627776:=by
 rcases mem_tms.1 (List.mem_of_find?_eq_some hs) with ⟨x,hx,rfl⟩|⟨x,hx,rfl⟩
 ·exact ⟨(h.ev x hx).1,(h.ev x hx).2.1⟩
 ·exact ⟨(g.ev x hx).2.1,(g.ev x hx).2.2.1⟩
theorem exps_time {d:GDirectory} {a:GEstate} (g:GoodD d) (h:Good a) {c:Int}:∀x∈exps d a c,0≤x.Time∧x.Time≤1099511627776:=fun x hx=>sin_timeD g h (mem_expo.1 hx).2
theorem rdrs_len (l:List GExposure):(rdrs l).length≤l.length:=List.length_filter_le _ _
theorem tell_eq {d:GDirectory} {a:GEstate} (g:GoodD d) (h:Good a) {c:Int} (h0:0≤c) (h1:c≤63) (m:GSummary) (hm:m.Readers=0) :
  Ok (F_1o m d a c) fun y=>y.1=0∧Tl (exps d a c) (GSummary.mk m.Fingerprint m.Spots m.Public m.Readers (-1) m.Severity m.Rotated m.Dead) y.2:=by
 unfold F_1o
 rw [All_eq g h h0 h1,xX]
 simp only [decide_true,wY,vJ]
 have hl:=expo_len d a c (d.Kinds.length+1) (-1)
 have:=g.kl
 rw [tl_fold (exps d a c) 0 _ (by show 0≤m.Readers;omega) (by show m.Readers+((exps d a c).length:Int)≤1000;unfold exps;omega),xX]
 exact Ok.ret ⟨rfl,tl_props rfl _ fun x hx=>(exps_time g h x hx).1⟩
noncomputable def sev (x:GRights) (w:List Int) (n:Int) (pub:Bool) (k:Int):GSeverity:=⟨lvl (sumW w x k w.length*aud n pub),sumW w x k w.length,aud n pub,sumW w x k w.length*aud n pub⟩
def setSev (m:GSummary) (v:GSeverity):GSummary:=GSummary.mk m.Fingerprint m.Spots m.Public m.Readers m.Since v m.Rotated m.Dead
def worstOf (f:Int→GSeverity) (l:List Int) (v0 v:GSeverity):Prop:=(l=[]∧v=v0)∨(∃k∈l,v=f k)∧∀k∈l,(f k).Score≤v.Score
theorem rate_sum {m:GSummary} {r:GRegistry} {x:GRights} {w:List Int} (hr:RegOK r) (g:GoodR x) (hw:wOK w) (hl:(w.length:Int)=x.Resources) (hn:0≤m.Readers∧m.Readers≤24) :
  Ok (F_1w m r x w) fun y=>((∃k∈finds r m.Fingerprint,x.Credentials≤k)∧y.1=2)∨(∀k∈finds r m.Fingerprint,k<x.Credentials)∧y.1=0∧∃v,y.2=setSev m v∧worstOf (sev x w m.Readers m.Public) (finds r m.Fingerprint) m.Severity v:=by
 unfold F_1w
 have e1:F_3e w=some false:=by
  unfold F_3e F_4e
  rw [cont_eq (fun _=>false) w fun k a ha=>?_]
  ·simp
  ·unfold F_6n F_4d
   have:=hw a ha
   have e:(decide (a<0)||decide (100<a))=false:=by simp;omega
   simp only [grp,e,xX];rfl
 have e2:F_1t (finds r m.Fingerprint) x=some ((finds r m.Fingerprint).any fun k=>decide (x.Credentials≤k)):=by
  unfold F_1t F_4f
  rw [cont_eq (fun k=>decide (x.Credentials≤k)) _ fun k a ha=>?_]
  show (bif decide (x.Credentials≤a) then some (Fl.ex k) else some (Fl.nx ()))=_
  cases decide (x.Credentials≤a)<;>rfl
 rw [pcheck24 hr,xX,rcheck_eq,if_pos g]
 simp only [decide_true,wY,vJ,xX]
 rw [pfind24 hr,xX,wS hl,e1]
 simp only [wY,vJ,xX]
 rw [e2,xX]
 refine Ok.ite (fun c=>Ok.ret (.inl ⟨by simpa using c,rfl⟩)) fun c=>?_
 have c:∀k∈finds r m.Fingerprint,k<x.Credentials:=by simpa using c
 generalize hF:finds r m.Fingerprint=L at *
 have hL:∀k∈L,0≤k∧k<24:=fun k hk=>mem_finds hr (hF▸hk)
 have hlen:L.length≤24:=by rw [←hF];have:=idxs_len (fun c:GCredential=>decide (c.Fingerprint=m.Fingerprint)) r.Credentials 0;have:=hr.2.1;unfold finds;omega
 obtain ⟨f,hf⟩:∃f,f=sev x w m.Readers m.Public:=⟨_,rfl⟩
 refine Ok.bind (Ok.forI (all:=L) (Q:=fun o:Fl (List GSeverity) (Int×GSummary)=>o=.nx (L.map f)) (fun pre y=>y=pre.map f) L [] 0 [] rfl rfl rfl (fun pre k q y hw' hy=>?_) fun y hy=>by rw [hy]) fun o ho=>?_
 ·have hk:k∈L:=by rw [hw'];simp
  have hp:pre.length<L.length:=by rw [hw'];simp
  unfold F_4l
  rw [rate_ok g hw hl ⟨(hL k hk).1,by have:=c k hk;omega⟩ hn,xX]
  simp only [decide_true,wY,vJ]
  refine Ok.chk (room_sm (by rw [hy];simp;omega)) (Ok.ret ?_)
  show _=_
  rw [hy,List.map_append,hf];rfl
 ·rw [ho]
  simp only [Fl.elim]
  obtain ⟨z,e,z1,z2⟩:=worst_ok (L.map f) (by simp;omega)
  rw [e,xX]
  by_cases h0:L=[]
  ·subst h0
   have:z.2=false:=by rw [z1];rfl
   rw [this]
   exact Ok.ret (.inr ⟨by simp,rfl,m.Severity,rfl,.inl ⟨rfl,rfl⟩⟩)
  ·have hpos:0<L.length:=List.length_pos_iff.2 h0
   have:z.2=true:=by rw [z1];exact wS (by simp;omega)
   rw [this]
   obtain ⟨q1,q2,q3,_⟩:=z2 (by simpa using hpos)
   have hi:z.1.toNat<L.length:=by simp at q2;omega
   simp only [vL]
   refine Ok.chk (inb_iff.2 ⟨q1,q2⟩) (Ok.ret (.inr ⟨c,rfl,(L.map f).getD z.1.toNat default,rfl,.inr ⟨⟨L.getD z.1.toNat default,getD_mem hi,?_⟩,fun k hk=>?_⟩⟩))
   ·rw [←hf];simp [zE,hi]
   ·obtain ⟨i,hi',rfl⟩:=z8.1 hk
    have:=q3 i (by simpa using hi')
    rw [←hf]
    simpa [zE,hi'] using this
structure Scn (z:Gscene):Prop where
 d:GoodD z.d_
 dk:z.d_.Kinds.length≤7
 dk1:1≤z.d_.Kinds.length
 a:Good z.a_
 r:RegOK z.r_
 x:GoodR z.x_
 w:wOK z.w_
 wl:(z.w_.length:Int)=z.x_.Resources
 f0:0≤z.f_.Fingerprint
 f1:z.f_.Fingerprint≤18446744073709551615
 fw:z.f_.Where.length≤1000
 c0:0≤z.c_
 c1:z.c_≤63
 s:RoOK z.fleet_ z.s_
 g:ClOK z.group_
structure Tells (z:Gscene) (m:GSummary):Prop where
 fp:m.Fingerprint=z.f_.Fingerprint
 sp:m.Spots=z.f_.Where.length
 pu:m.Public=(exps z.d_ z.a_ z.c_).any fun x=>decide (x.Principal=-1)
 rd:m.Readers=(rdrs (exps z.d_ z.a_ z.c_)).length
 si:leastT (exps z.d_ z.a_ z.c_) m.Since
 sv:worstOf (sev z.x_ z.w_ m.Readers m.Public) (finds z.r_ z.f_.Fingerprint) ⟨0,0,0,0⟩ m.Severity
 ro:m.Rotated=(decide (z.s_.Valid=2)&&z.s_.Units.all endU)
 de:m.Dead=deadB z.group_ 1
theorem build_ok {z:Gscene} (h:Scn z):Ok (F_16 z) fun y=>((∃k∈finds z.r_ z.f_.Fingerprint,z.x_.Credentials≤k)∧y=(zS,2))∨(∀k∈finds z.r_ z.f_.Fingerprint,k<z.x_.Credentials)∧y.2=0∧Tells z y.1:=by
 unfold F_16 F_4x
 obtain ⟨y,e,y1,y2⟩:=tell_eq h.d h.a h.c0 h.c1 (GSummary.mk z.f_.Fingerprint (z.f_.Where.length:Int) false 0 0 (GSeverity.mk 0 0 0 0) false false) rfl
 rw [e,xX,y1]
 simp only [decide_true,wY,vJ]
 have hrd:=rdrs_len (exps z.d_ z.a_ z.c_)
 have hel:=expo_len z.d_ z.a_ z.c_ (z.d_.Kinds.length+1) (-1)
 have hdk:=h.dk
 have q1:=y2.rd
 have q2:=y2.fp
 simp only [Int.zero_add] at q1 q2
 obtain ⟨v,e2,v1⟩:=rate_sum (m:=y.2) h.r h.x h.w h.wl (by unfold exps at q1 hrd;omega)
 rw [e2,xX]
 rcases v1 with ⟨v1,v2⟩|⟨v1,v2,u,v3,v4⟩
 ·rw [v2]
  rw [q2] at v1
  exact Ok.ret (.inl ⟨v1,rfl⟩)
 ·rw [v2]
  simp only [decide_true,wY,vJ]
  rw [pright32 h.s,xX]
  simp only [wY,vJ]
  rw [pcheck36 h.g,xX]
  simp only [decide_true,wY,vJ]
  rw [pended32 h.s,xX,pdead36 h.g (.inl rfl),xX,xX]
  rw [q2] at v1 v4
  refine Ok.ret (.inr ⟨v1,rfl,?_⟩)
  rw [v3]
  refine ⟨y2.fp,y2.sp,?_,q1,y2.si,?_,rfl,rfl⟩
  ·have:=y2.pu;show y.2.Public=_;simpa using this
  ·have e5:=y2.sv;simp only at e5;rw [e5] at v4;exact v4
theorem wrap_u64 {n:Int} (h0:0≤n) (h1:n≤1000000):IntKind.wrap .u64 n=n:=IntWalk.u64_in n ⟨h0,by omega⟩
theorem make_ok {t:GTape} (h:TOK t):Ok (F_1h t) fun y=>Scn y.1∧y.1.x_.Credentials≤24∧y.1.a_.Events.length≤15∧(∀x∈y.1.a_.Events,x.Time≤33)∧TOK y.2:=by
 unfold F_1h
 refine Ok.bind (dir_ok h) fun d hd=>?_
 obtain ⟨d1,d2,d3,_,_,d6⟩:=hd
 refine Ok.bind (estate_ok d6 d3) fun a ha=>?_
 obtain ⟨a1,a2,a3,a4,a5⟩:=ha
 refine Ok.bind (registry_ok a5) fun r hr=>Ok.bind (rights_ok hr.2) fun x hx=>?_
 obtain ⟨x1,x2,x3,x4,x5,x6,x7⟩:=hx
 refine Ok.bind (worths_ok x7 (by omega) (by omega)) fun w hw=>?_
 obtain ⟨w1,w2,w3⟩:=hw
 refine Ok.bind (next_ok w3 (by omega)) fun f hf=>Ok.bind (next_ok hf.2.2 (by omega)) fun n hn=>Ok.chk (roomI_iff.2 ⟨hn.1,vI _,by have:=hn.2.1;omega⟩) (Ok.bind (next_ok hn.2.2 (by omega)) fun c hc=>Ok.bind (fit_ok hc.2.2) fun fl hfl=>Ok.bind (held_ok hfl.2 hfl.1) fun s hs=>Ok.bind (cluster_ok hs.2) fun g hg=>Ok.ret ⟨?_,by show x.1.Credentials≤24;omega,a3,a4,hg.2⟩)
 have ew:IntKind.wrap .u64 f.1=f.1:=wrap_u64 hf.1 (by have:=hf.2.1;omega)
 exact ⟨d1,d3,d2,a1,hr.1,x1,w2,w1,by show 0≤IntKind.wrap .u64 f.1;rw [ew];exact hf.1,by show IntKind.wrap .u64 f.1≤_;rw [ew];have:=hf.2.1;omega,by show (List.replicate _ _).length≤1000;rw [List.length_replicate];have:=hn.2.1;omega,hc.1,by show c.1≤63;have:=hc.2.1;omega,hs.1,hg.1⟩
end Go.Ab
namespace Go.Ab
open Go.Proofs
theorem rd_rng {z:Gscene} (h:Scn z) {m:GSummary} (t:Tells z m):0≤m.Readers∧m.Readers≤24:=by
 have hrd:=rdrs_len (exps z.d_ z.a_ z.c_)
 have hel:=expo_len z.d_ z.a_ z.c_ (z.d_.Kinds.length+1) (-1)
 have hdk:=h.dk
 have:=t.rd
 unfold exps at this hrd
 omega
end Go.Ab
namespace Go.Ab
open Go.Proofs
structure Push (a:GEstate) (x:GAccess):Prop where
 g:Good a
 g':Good ⟨a.Places,a.Events++[x]⟩
 k:x.Kind=1
 t:a.Events=[]∨∃y∈a.Events,y.Time=x.Time
theorem pub_push {d:GDirectory} {a:GEstate} {x:GAccess} (h:Push a x) {c:Int} (h0:0≤c) (h1:c≤63):(sin d ⟨a.Places,a.Events++[x]⟩ c (-1)).isSome=(sin d a c (-1)).isSome:=by
 obtain ⟨g,g',hk,ht⟩:=h
 rw [wR]
 constructor
 ·intro hs
  obtain ⟨t,hs⟩:=Option.isSome_iff_exists.1 hs
  have hp:=List.find?_some hs
  have hm:=List.mem_of_find?_eq_some hs
  simp only [pla,List.find?_isSome] at hp
  obtain ⟨pl,q1,q2⟩:=hp
  rw [whr_push (a:=a) g g' (by omega) (by omega) (by omega) c t] at q1
  have hm':t∈tms d a:=by
   rw [mem_tms] at hm ⊢
   rcases hm with ⟨y,hy,e⟩|hm
   ·simp only [wK,xF] at hy
    rcases hy with hy|rfl
    ·exact .inl ⟨y,hy,e⟩
    ·rcases ht with he|⟨z,hz,e'⟩
     ·obtain ⟨_,q3⟩:=(mem_whr g h0 h1).1 q1
      rw [hld,he] at q3;cases q3
     ·exact .inl ⟨z,hz,e'.trans e⟩
   ·exact .inr hm
  have hsee:see d a (-1) t pl=true:=by
   simp only [see,if_true] at q2 ⊢
   rw [lkf_append] at q2
   simp only [lkf,lst,hk] at q2
   split at q2
   ·exact q2
   ·simpa using q2
  refine List.find?_isSome.2 ⟨t,hm',?_⟩
  simp only [pla,List.find?_isSome]
  exact ⟨pl,q1,hsee⟩
 ·intro hs
  obtain ⟨t,hs⟩:=Option.isSome_iff_exists.1 hs
  obtain ⟨t',e,_⟩:=sin_push (P:=a.Places) (E:=a.Events) (x:=x) g g' (.inl hk) hs
  rw [e];rfl
theorem rdrs_app (l m:List GExposure):rdrs (l++m)=rdrs l++rdrs m:=List.filter_append _ _
theorem rdrs_push {d:GDirectory} {a a':GEstate} {c:Int} (h:∀p t,sin d a c p=some t→∃t',sin d a' c p=some t'∧t'≤t):∀(n:Nat) (k:Int),(rdrs (expo d a c n k)).length≤(rdrs (expo d a' c n k)).length
 | 0,k=>vG _
 | n+1,k=>by
  have ih:=rdrs_push h n (k+1)
  simp only [expo,rdrs_app,xH]
  have:(rdrs (match sin d a c k with|some t=>[⟨k,t⟩]|none=>[])).length≤(rdrs (match sin d a' c k with|some t=>[⟨k,t⟩]|none=>[])).length:=by
   cases hs:sin d a c k with
   | none=>simp [rdrs]
   | some t =>
    obtain ⟨t',e,_⟩:=h k t hs
    rw [e];simp only [rdrs,List.filter_cons,List.filter_nil]
    split<;>simp
  exact Nat.add_le_add this ih
theorem any_pub (d:GDirectory) (a:GEstate) (c:Int):((exps d a c).any fun x=>decide (x.Principal=-1))=(sin d a c (-1)).isSome:=by
 rw [wR,List.any_eq_true]
 constructor
 ·rintro ⟨x,hx,e⟩
  have e:x.Principal=-1:=by simpa using e
  have:=(mem_expo.1 hx).2
  rw [e] at this
  rw [this];rfl
 ·intro hs
  obtain ⟨t,hs⟩:=Option.isSome_iff_exists.1 hs
  exact ⟨⟨-1,t⟩,mem_expo.2 ⟨⟨vI _,by show (-1:Int) < -1+((d.Kinds.length+1:Nat):Int);omega⟩,hs⟩,by simp⟩
theorem aud_mono {n n':Int} (h:n≤n') (p:Bool):aud n p≤aud n' p:=by unfold aud;cases p<;>simp<;>omega
theorem sev_lvl (x:GRights) (w:List Int) (n:Int) (p:Bool) (k:Int):(sev x w n p k).Level=lvl (sev x w n p k).Score:=rfl
theorem worst_mono {x:GRights} {w:List Int} (g:GoodR x) (hw:wOK w) {n n':Int} (h0:0≤n) (h:n≤n') (p:Bool) {L:List Int} {v v':GSeverity} (hv:worstOf (sev x w n p) L ⟨0,0,0,0⟩ v) (hv':worstOf (sev x w n' p) L ⟨0,0,0,0⟩ v') :
  v.Score≤v'.Score∧v.Level≤v'.Level:=by
 rcases hv with ⟨e,rfl⟩|⟨⟨k,hk,rfl⟩,_⟩
 ·rcases hv' with ⟨_,rfl⟩|⟨⟨k',hk',_⟩,_⟩
  ·exact ⟨vI _,vI _⟩
  ·rw [e] at hk';cases hk'
 ·rcases hv' with ⟨e,_⟩|⟨⟨k',hk',rfl⟩,h2⟩
  ·rw [e] at hk;cases hk
  ·have hs:=(sumW_range g hw k w.length (vG _)).1
   have h3:(sev x w n p k).Score≤(sev x w n' p k).Score:=Int.mul_le_mul_of_nonneg_left (aud_mono h p) hs
   have h4:(sev x w n p k).Score≤(sev x w n' p k').Score:=Int.le_trans h3 (h2 k hk)
   exact ⟨h4,by rw [sev_lvl,sev_lvl];exact lvl_mono h4⟩
theorem scn_all {z:Gscene} (h:Scn z):Scn (Gscene.mk z.d_ z.a_ z.r_ (GRights.mk 24 z.x_.Resources z.x_.Grants z.x_.Stores z.x_.Mints) z.w_ z.f_ z.c_ z.fleet_ z.s_ z.group_):=by
 have g:=h.x
 have hc:=g.c1
 refine ⟨h.d,h.dk,h.dk1,h.a,h.r,⟨by show (0:Int)≤24;omega,by show (24:Int)≤24;omega,g.r0,g.r1,g.gl,g.sl,g.ml,fun q hq=>?_,fun q hq=>?_,fun q hq=>?_⟩,h.w,h.wl,h.f0,h.f1,h.fw,h.c0,h.c1,h.s,h.g⟩
 ·have:=g.gr q hq;simp only [gOK] at this ⊢;omega
 ·have:=g.st q hq;simp only [sOK] at this ⊢;omega
 ·have:=g.mi q hq;simp only [mOK] at this ⊢;omega
theorem scn_push {z:Gscene} (h:Scn z) {x:GAccess} (hp:Push z.a_ x):Scn (Gscene.mk z.d_ (GEstate.mk z.a_.Places (z.a_.Events++[x])) z.r_ z.x_ z.w_ z.f_ z.c_ z.fleet_ z.s_ z.group_) :=
 ⟨h.d,h.dk,h.dk1,hp.g',h.r,h.x,h.w,h.wl,h.f0,h.f1,h.fw,h.c0,h.c1,h.s,h.g⟩
theorem more_tells {z:Gscene} (h:Scn z) {x:GAccess} (hp:Push z.a_ x) {m m':GSummary} (t:Tells z m) (t':Tells (Gscene.mk z.d_ (GEstate.mk z.a_.Places (z.a_.Events++[x])) z.r_ z.x_ z.w_ z.f_ z.c_ z.fleet_ z.s_ z.group_) m') :
  m.Readers≤m'.Readers∧m'.Public=m.Public∧(m.Severity.Score≤m'.Severity.Score∧m.Severity.Level≤m'.Severity.Level)∧(m.Since<0∨0≤m'.Since∧m'.Since≤m.Since):=by
 have push:∀p t,sin z.d_ z.a_ z.c_ p=some t→∃t',sin z.d_ ⟨z.a_.Places,z.a_.Events++[x]⟩ z.c_ p=some t'∧t'≤t:=fun p t hs=>sin_push (P:=z.a_.Places) (E:=z.a_.Events) (x:=x) hp.g hp.g' (.inl hp.k) hs
 have hr:m.Readers≤m'.Readers:=by
  have e1:=t.rd
  have e2:=t'.rd
  have:=rdrs_push push (z.d_.Kinds.length+1) (-1)
  simp only [exps] at e1 e2
  omega
 have hpu:m'.Public=m.Public:=by
  have e1:=t.pu
  have e2:=t'.pu
  simp only [any_pub] at e1 e2
  rw [e1,e2];exact pub_push hp h.c0 h.c1
 refine ⟨hr,hpu,?_,?_⟩
 ·have h2:=t'.sv
  simp only at h2
  rw [hpu] at h2
  exact worst_mono h.x h.w (rd_rng h t).1 hr m.Public t.sv h2
 ·rcases t.si with ⟨_,e⟩|⟨⟨y,hy,e⟩,_⟩
  ·exact .inl (by omega)
  ·right
   obtain ⟨hy1,hy2⟩:=mem_expo.1 hy
   obtain ⟨s,q1,q2⟩:=push _ _ hy2
   have hm:(⟨y.Principal,s⟩:GExposure)∈exps z.d_ ⟨z.a_.Places,z.a_.Events++[x]⟩ z.c_:=mem_expo.2 ⟨hy1,q1⟩
   rcases t'.si with ⟨e',_⟩|⟨⟨y',hy',e'⟩,h3⟩
   ·simp only at e';rw [e'] at hm;cases hm
   ·have h4:=(exps_time h.d hp.g' y' hy').1
    have h5:=h3 _ hm
    simp only at h5
    omega
theorem build_all {z:Gscene} (h:Scn z) (hc:z.x_.Credentials=24):Ok (F_16 z) fun y=>y.2=0∧Tells z y.1:=(build_ok h).mono fun y hy=>by
 rcases hy with ⟨⟨k,h1,h2⟩,_⟩|⟨_,h1⟩
 ·have:=mem_finds h.r h1;omega
 ·exact h1
theorem more43 (l:List Int):F_3v l=some true:=by
 refine Ok.eq ?_
 unfold F_3v
 refine Ok.ite (fun _=>Ok.bind (P:=fun y=>y=true) (Ok.of awake43 rfl) fun y hy=>Ok.ret hy) fun c=>?_
 have c:¬600<(l.length:Int):=by simpa using c
 refine Ok.bind (make_ok (t:=⟨l,0⟩) ⟨vI 0,by show l.length≤1000;omega⟩) fun z hz=>?_
 obtain ⟨hs,_,hel,het,htk⟩:=hz
 have ga:=hs.a
 refine Ok.jn (P:=fun j:Int=>0≤j∧j≤33∧(∀x∈z.1.a_.Events,x.Time≤j)∧(z.1.a_.Events=[]∨∃y∈z.1.a_.Events,y.Time=j)) ?_ fun j hj=>?_
 ·refine Ok.ite (fun c=>?_) fun c=>?_
  ·have c:0<(z.1.a_.Events.length:Int):=by simpa using c
   refine Ok.chk (in64_sm (by omega) (by omega)) (Ok.chk (inb_iff.2 ⟨by omega,by omega⟩) (Ok.ret ?_))
   have hl:z.1.a_.Events.length - 1<z.1.a_.Events.length:=by omega
   have e:z.1.a_.Events.getD ((z.1.a_.Events.length:Int) - 1).toNat default=z.1.a_.Events[z.1.a_.Events.length - 1]:=by
    rw [show ((z.1.a_.Events.length:Int) - 1).toNat=z.1.a_.Events.length - 1 by omega]
    simp [zE,hl]
   rw [e]
   have hm:z.1.a_.Events[z.1.a_.Events.length - 1]∈z.1.a_.Events:=wA hl
   refine ⟨(ga.ev _ hm).1,het _ hm,fun x hx=>?_,.inr ⟨_,hm,rfl⟩⟩
   obtain ⟨i,hi,rfl⟩:=z8.1 hx
   by_cases q:i=z.1.a_.Events.length - 1
   ·subst q;exact vI _
   ·exact (List.pairwise_iff_getElem.1 ga.srt) i (z.1.a_.Events.length - 1) hi hl (by omega)
  ·have c:¬0<(z.1.a_.Events.length:Int):=by simpa using c
   have e:z.1.a_.Events=[]:=zM.1 (by omega)
   exact Ok.ret ⟨vI 0,by decide,fun x hx=>(by rw [e] at hx;cases hx),.inl e⟩
 obtain ⟨j1,j2,j3,j4⟩:=hj
 have hlo:=ga.lo
 have hdk:=hs.dk
 have hdk1:=hs.dk1
 refine Ok.chk (room_sm (by omega)) (Ok.bind (next_ok htk (by omega)) fun p hpl=>Ok.bind (next_ok hpl.2.2 (by omega)) fun q hq=>Ok.chk (room_sm (by simp;omega)) ?_)
 have hp:Push z.1.a_ ⟨j,1,p.1,q.1,0,0,0⟩:=by
  refine ⟨ga,⟨ga.lo,ga.hi,by simp;omega,fun e he=>?_,?_⟩,rfl,j4⟩
  ·simp only [wK,xF] at he
   rcases he with he|rfl
   ·exact ga.ev e he
   ·exact ⟨j1,by show j≤1099511627776;omega,hpl.1,by show p.1≤z.1.a_.Places - 1;omega,.inl ⟨.inl rfl,hq.1,by show q.1≤23;omega,rfl,rfl,rfl⟩⟩
  ·simp only [List.pairwise_append]
   exact ⟨ga.srt,by simp,fun e he w hw=>by
    simp only [xF] at hw
    subst hw
    exact j3 e he⟩
 have hsA:=scn_all hs
 refine Ok.bind (build_all hsA rfl) fun m hm=>Ok.bind (build_all (scn_push hsA hp) rfl) fun m' hm'=>?_
 obtain ⟨b1,b2,b3,b4⟩:=more_tells hsA hp hm.2 hm'.2
 have e1:((((((!decide (m.2=0))||(!decide (m'.2=0)))||decide (m'.1.Readers<m.1.Readers))||(!(m.1.Public==m'.1.Public)))||decide (m'.1.Severity.Score<m.1.Severity.Score))||decide (m'.1.Severity.Level<m.1.Severity.Level))=false:=by
  simp [hm.1,hm'.1,b2]
  omega
 have e2:(decide (m.1.Since<0)||(decide (0≤m'.1.Since)&&decide (m'.1.Since≤m.1.Since)))=true:=by
  simp only [wQ,wD,xM];exact b4
 simp only [grp,e1,vJ,e2,jn,vL,awake43,xX]
 exact Ok.ret rfl
theorem call43m {l:List Int}:ACall Tryz.prog 6 [.sl (l.map (V.int .i64))] [] (fun r H=>r=.bool true∧H=[]):=Wq_3v.c.w (more43 l)
end Go.Ab
