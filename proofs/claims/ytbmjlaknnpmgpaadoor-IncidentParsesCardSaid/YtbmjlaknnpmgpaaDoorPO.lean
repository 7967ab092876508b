/- Numbers and words of a line (for chapter 43). -/
import Derived.Test.YtbmjlaknnpmgpaaDoorAbStr
import Derived.Test.YtbmjlaknnpmgpaaDoorAbHo
import Derived.Test.YtbmjlaknnpmgpaaDoorAbSpl
import Derived.Lib.Join
import Derived.Test.YtbmjlaknnpmgpaaDoorLA
set_option linter.all false
set_option linter.all false
namespace Go.Ab
open Go.Proofs
theorem dig_bounds (u:Nat):∀c∈Lib.decDigits u,48≤c.toNat∧c.toNat≤57:=by
 induction u using Nat.strongRecOn with
 | _ u ih =>
  intro c hc
  rw [Lib.decDigits] at hc
  split at hc
  ·rename_i h
   simp at hc;subst hc
   simp;omega
  ·rcases List.mem_append.1 hc with hc|hc
   ·exact ih (u / 10) (by omega) c hc
   ·simp at hc;subst hc
    simp;omega
theorem parse_dig (u:Nat) (h:u≤18446744073709551615) (l:Str):Lib.parseUint10 0 (Lib.decDigits u++l)=Lib.parseUint10 u l:=by
 induction u using Nat.strongRecOn generalizing l with
 | _ u ih =>
  rw [Lib.decDigits]
  split
  ·rename_i hu
   have e:(UInt8.ofNat (48+u)).toNat=48+u:=by simp;omega
   simp only [List.cons_append,List.nil_append,Lib.parseUint10,e]
   rw [if_pos (by omega),if_neg (by omega),if_neg (by omega)]
   congr 1;omega
  ·rename_i hu
   rw [List.append_assoc,ih (u / 10) (by omega) (by omega)]
   have e:(UInt8.ofNat (48+u % 10)).toNat=48+u % 10:=by simp;omega
   simp only [List.cons_append,List.nil_append,Lib.parseUint10,e]
   rw [if_pos (by omega),if_neg (by omega),if_neg (by omega)]
   congr 1;omega
theorem dec_ne (u:Nat):Lib.decDigits u≠[]:=by rw [Lib.decDigits];split<;>simp
theorem mag_dig (u:Nat) (h:u≤18446744073709551615):Lib.parseMag (Lib.decDigits u)=.ok u:=by
 have hp:=parse_dig u h []
 rw [List.append_nil] at hp
 unfold Lib.parseMag
 rw [if_neg (dec_ne u),hp];rfl
theorem dec_len {u:Nat} (hu:u<18446744073709551616):(Lib.decDigits u).length≤20:=by
 rw [Lib.decDigits_length]
 by_cases h:1≤u
 ·have:=Lib.numDigits_eq u h hu;split at this<;>omega
 ·obtain rfl:u=0:=by omega
  exact Nat.le_of_ble_eq_true (by kernel_rfl)
theorem atoiE_all {n:Int} (h0:-9223372036854775808≤n) (h1:n≤9223372036854775807):atoiE (Lib.itoa n)=some (n,true):=by
 have key:Lib.atoiAll (Lib.itoa n)=.ok n∧(Lib.itoa n).length≤21:=by
  refine ⟨?_,Lib.itoa_length_le n h0 h1⟩
  by_cases c:0≤n
  ·obtain ⟨u,rfl⟩:=Int.eq_ofNat_of_zero_le c
   rw [Lib.itoa_nonneg]
   have hb:=dig_bounds u
   cases hd:Lib.decDigits u with
   | nil=>exact absurd hd (dec_ne u)
   | cons c r =>
    have h1:=hb c (by rw [hd];simp)
    rw [Lib.atoiAll_plain c r (by omega) (by omega),←hd,mag_dig u (by omega)]
    simp only [Lib.signless]
    rw [if_neg (by omega)]
  ·obtain ⟨u,hu⟩:∃u:Nat,n=-(u:Int):=⟨(-n).toNat,by omega⟩
   subst hu
   rw [Lib.itoa_neg u (by omega),Lib.atoiAll_minus,mag_dig u (by omega)]
   simp only [Lib.signed]
   rw [if_neg (by omega)]
 refine Ok.eq (Ok.chk (decide_eq_true (by omega)) (Ok.ret ?_))
 unfold atoiV atoiB
 rw [key.1]
theorem spl_ne (b:UInt8):∀s,spl b s≠[]
 | []=>by simp [spl]
 | c::r=>by
  simp only [spl]
  split
  ·simp
  ·cases spl b r<;>simp [glue]
theorem glue_nil {l:List Str} (h:l≠[]):glue [] l=l:=by cases l with|nil=>exact absurd rfl h|cons a t=>simp [glue]
theorem glue_glue (a b:Str) (l:List Str):glue a (glue b l)=glue (a++b) l:=by cases l<;>simp [glue]
theorem joinTail_cons (sep a:Str) (l:List Str):Lib.joinTail sep (a::l)=sep++a++Lib.joinTail sep l:=by simp [Lib.joinTail]
theorem spl_join {b:UInt8}:∀(l:List Str) (a:Str),(∀w∈a::l,∀c∈w,c≠b)→spl b (Lib.join (a::l) [b])=a::l
 | [],a,h=>by
  rw [Lib.join_cons]
  simpa [Lib.joinTail] using spl_none (h a (by simp))
 | x::l,a,h=>by
  have ih:=spl_join (b:=b) l x fun w hw=>h w (List.mem_cons_of_mem _ hw)
  rw [Lib.join_cons] at ih
  rw [Lib.join_cons,joinTail_cons]
  have e:a++([b]++x++Lib.joinTail [b] l)=a++b::(x++Lib.joinTail [b] l):=by simp
  rw [e,spl_app _ (h a (by simp)),ih]
end Go.Ab
set_option maxRecDepth 20000
namespace Go.Ab
open Go.Proofs
structure SV (m:GSummary):Prop where
 f0:0≤m.Fingerprint
 f1:m.Fingerprint≤18446744073709551615
 a:in64 m.Spots=true
 b:in64 m.Readers=true
 c:in64 m.Since=true
 d:in64 m.Severity.Level=true
 e:in64 m.Severity.Worth=true
 f:in64 m.Severity.Audience=true
 g:in64 m.Severity.Score=true
def ch (b:Bool) (y n:Str):Str:=bif b then y else n
abbrev wPub:Str:=[112,117,98,108,105,99]
abbrev wIns:Str:=[105,110,115,105,100,101]
abbrev wRot:Str:=[114,111,116,97,116,101,100]
abbrev wVal:Str:=[118,97,108,105,100]
abbrev wDead:Str:=[100,101,97,100]
abbrev wAli:Str:=[97,108,105,118,101]
def wds (m:GSummary):List Str:=[[108,101,97,107],Lib.decDigits m.Fingerprint.toNat,[115,112,111,116,115],Lib.itoa m.Spots,ch m.Public wPub wIns,
 [114,101,97,100,101,114,115],Lib.itoa m.Readers,[115,105,110,99,101],Lib.itoa m.Since,[108,101,118,101,108],Lib.itoa m.Severity.Level,[119,111,114,116,104],Lib.itoa m.Severity.Worth,
 [97,117,100,105,101,110,99,101],Lib.itoa m.Severity.Audience,[115,99,111,114,101],Lib.itoa m.Severity.Score,ch m.Rotated wRot wVal,ch m.Dead wDead wAli]
def ltx (m:GSummary):Str:=Lib.join (wds m) [32]
theorem choice_eq (b:Bool) (y n:Str):F_6 b y n=some (ch b y n):=by cases b<;>rfl
theorem pick_eq (b:Bool) (y n:Str):F_9 b y n=some (ch b y n):=by cases b<;>rfl
theorem fut_eq {n:Int} (h0:0≤n) (h1:n≤18446744073709551615):futI n 10=some (Lib.decDigits n.toNat):=by
 unfold futI
 exact chk_true (by simp;omega)
theorem itoa_eq {n:Int} (h:in64 n=true):itoaI n=some (Lib.itoa n):=chk_true h
theorem itoa_len {n:Int} (h:in64 n=true):(Lib.itoa n).length≤21:=Lib.itoa_length_le n (in64_iff.1 h).1 (in64_iff.1 h).2
theorem ch_len {b:Bool} {y n:Str} (h1:y.length≤7) (h2:n.length≤7):(ch b y n).length≤7:=by cases b<;>assumption
theorem joinTail_nil (sep:Str):Lib.joinTail sep []=[]:=rfl
theorem join_len {n:Nat}:∀(l:List Str) (a:Str),(∀w∈a::l,w.length≤n)→(Lib.join (a::l) [32]).length≤(n+1)*(l.length+1)
 | [],a,h=>by
  have:=h a (by simp)
  rw [Lib.join_cons,joinTail_nil];simp;omega
 | x::l,a,h=>by
  have ih:=join_len l x fun w hw=>h w (List.mem_cons_of_mem _ hw)
  have:=h a (by simp)
  rw [Lib.join_cons] at ih
  rw [Lib.join_cons,joinTail_cons,List.length_append,List.length_append,List.length_append,show (x::l).length+1=(l.length+1)+1 from rfl,Nat.mul_add (n+1) (l.length+1) 1]
  rw [List.length_append] at ih
  simp only [List.length_cons,List.length_nil]
  omega
theorem wds_len {m:GSummary} (h:SV m):∀w∈wds m,w.length≤21:=by
 have d:=dec_len (u:=m.Fingerprint.toNat) (by have:=h.f1;omega)
 have a1:=itoa_len h.a;have a2:=itoa_len h.b;have a3:=itoa_len h.c;have a4:=itoa_len h.d;have a5:=itoa_len h.e;have a6:=itoa_len h.f;have a7:=itoa_len h.g
 have c1:=ch_len (b:=m.Public) (y:=wPub) (n:=wIns) (by decide) (by decide)
 have c2:=ch_len (b:=m.Rotated) (y:=wRot) (n:=wVal) (by decide) (by decide)
 have c3:=ch_len (b:=m.Dead) (y:=wDead) (n:=wAli) (by decide) (by decide)
 have lit:∀{l:Str},l.length≤8→l.length≤21:=fun h=>Nat.le_trans h (by decide)
 unfold wds
 simp only [List.forall_mem_cons]
 exact ⟨lit (by decide),Nat.le_trans d (by decide),lit (by decide),a1,Nat.le_trans c1 (by decide),lit (by decide),a2,lit (by decide),a3,lit (by decide),a4,lit (by decide),a5,lit (by decide),a6,lit (by decide),a7,Nat.le_trans c2 (by decide),Nat.le_trans c3 (by decide),fun _ h=>by cases h⟩
theorem ltx_len {m:GSummary} (h:SV m):(ltx m).length≤418:=join_len (n:=21) _ _ (wds_len h)
theorem room16 {n:Nat} (h:n≤100):room n 16=true:=room_iff.2 (by omega)
theorem text_p {m:GSummary} (h:SV m):F_3 m=some (ltx m):=by
 have hl:=ltx_len h
 have ej:joinO (wds m) [32]=some (ltx m):=by
  unfold joinO joinI
  exact chk_true (by simp only [Bool.and_eq_true,decide_eq_true_eq];exact ⟨by simp [wds],by show (ltx m).length≤_;omega⟩)
 refine Ok.eq ?_
 unfold F_3
 refine Ok.bind (Ok.of (fut_eq h.f0 h.f1) rfl) fun y e=>?_
 subst e
 refine Ok.bind (Ok.of (itoa_eq h.a) rfl) fun y e=>?_
 subst e
 refine Ok.bind (Ok.of (choice_eq _ _ _) rfl) fun y e=>?_
 subst e
 have L:∀(k:Int) (a:GS53) (x:List Str),in64 a.n_=true→x.length≤40→F_7 k a x=some (x++[a.name_,Lib.itoa a.n_]):=fun k a x h1 h2=>by
  unfold F_7
  rw [itoa_eq h1,Option.bind_some,chk_true (room16 (by simp;omega))]
 have hb:=h.b;have hc:=h.c;have hd:=h.d;have he:=h.e;have hf:=h.f;have hg:=h.g
 refine Ok.bind (P:=fun x=>x=[[108,101,97,107],Lib.decDigits m.Fingerprint.toNat,[115,112,111,116,115],Lib.itoa m.Spots,ch m.Public wPub wIns,
  [114,101,97,100,101,114,115],Lib.itoa m.Readers,[115,105,110,99,101],Lib.itoa m.Since,[108,101,118,101,108],Lib.itoa m.Severity.Level,[119,111,114,116,104],Lib.itoa m.Severity.Worth,
  [97,117,100,105,101,110,99,101],Lib.itoa m.Severity.Audience,[115,99,111,114,101],Lib.itoa m.Severity.Score]) ?_ fun y e=>?_
 ·simp only [foldL]
  rw [L _ _ _ hb (by simp)];simp only [Option.bind_some]
  rw [L _ _ _ hc (by simp)];simp only [Option.bind_some]
  rw [L _ _ _ hd (by simp)];simp only [Option.bind_some]
  rw [L _ _ _ he (by simp)];simp only [Option.bind_some]
  rw [L _ _ _ hf (by simp)];simp only [Option.bind_some]
  rw [L _ _ _ hg (by simp)];simp only [Option.bind_some]
  exact Ok.ret rfl
 ·subst e
  refine Ok.bind (Ok.of (choice_eq _ _ _) rfl) fun y e=>?_
  subst e
  refine Ok.bind (Ok.of (choice_eq _ _ _) rfl) fun y e=>?_
  subst e
  refine Ok.chk (room16 (by simp)) (Ok.bind (Ok.of ej rfl) fun y e=>Ok.ret e.symm)
theorem strlN {n:Nat} (h:n≤1000):strl n=true:=strl_iff.2 (by omega)
theorem text_r {m:GSummary} (h:SV m):F_5 m=some (ltx m):=by
 have d:=dec_len (u:=m.Fingerprint.toNat) (by have:=h.f1;omega)
 have a1:=itoa_len h.a;have a2:=itoa_len h.b;have a3:=itoa_len h.c;have a4:=itoa_len h.d;have a5:=itoa_len h.e;have a6:=itoa_len h.f;have a7:=itoa_len h.g
 have c1:=ch_len (b:=m.Public) (y:=wPub) (n:=wIns) (by decide) (by decide)
 have c2:=ch_len (b:=m.Rotated) (y:=wRot) (n:=wVal) (by decide) (by decide)
 have c3:=ch_len (b:=m.Dead) (y:=wDead) (n:=wAli) (by decide) (by decide)
 have ef:=fut_eq h.f0 h.f1
 have i1:=itoa_eq h.a;have i2:=itoa_eq h.b;have i3:=itoa_eq h.c;have i4:=itoa_eq h.d;have i5:=itoa_eq h.e;have i6:=itoa_eq h.f;have i7:=itoa_eq h.g
 have el:ltx m=Lib.join (wds m) [32]:=rfl
 simp only [wds,Lib.join_cons,joinTail_cons,joinTail_nil,wPub,wIns,wRot,wVal,wDead,wAli] at el
 generalize Lib.decDigits m.Fingerprint.toNat=D at *
 generalize Lib.itoa m.Spots=A1 at *
 generalize Lib.itoa m.Readers=A2 at *
 generalize Lib.itoa m.Since=A3 at *
 generalize Lib.itoa m.Severity.Level=A4 at *
 generalize Lib.itoa m.Severity.Worth=A5 at *
 generalize Lib.itoa m.Severity.Audience=A6 at *
 generalize Lib.itoa m.Severity.Score=A7 at *
 simp only [wPub,wIns,wRot,wVal,wDead,wAli] at c1 c2 c3
 refine Ok.eq ?_
 unfold F_5
 repeat' (first
 |(refine Ok.chk (strlN (by simp only [List.length_append,List.length_cons,List.length_nil];omega)) ?_)
 |(refine Ok.bind (Ok.of ef rfl) fun y e=>?_;subst e)
 |(refine Ok.bind (Ok.of i1 rfl) fun y e=>?_;subst e)
 |(refine Ok.bind (Ok.of i2 rfl) fun y e=>?_;subst e)
 |(refine Ok.bind (Ok.of i3 rfl) fun y e=>?_;subst e)
 |(refine Ok.bind (Ok.of i4 rfl) fun y e=>?_;subst e)
 |(refine Ok.bind (Ok.of i5 rfl) fun y e=>?_;subst e)
 |(refine Ok.bind (Ok.of i6 rfl) fun y e=>?_;subst e)
 |(refine Ok.bind (Ok.of i7 rfl) fun y e=>?_;subst e)
 |(refine Ok.bind (Ok.of (pick_eq _ _ _) rfl) fun y e=>?_;subst e))
 refine Ok.ret ?_
 rw [el]
 simp [wPub,wIns,wRot,wVal,wDead,wAli]
end Go.Ab
set_option maxRecDepth 20000
namespace Go.Ab
open Go.Proofs
theorem itoa_chars {n:Int}:∀c∈Lib.itoa n,c=45∨(48≤c.toNat∧c.toNat≤57):=by
 by_cases h:0≤n
 ·obtain ⟨u,rfl⟩:=Int.eq_ofNat_of_zero_le h
  rw [Lib.itoa_nonneg]
  exact fun c hc=>.inr (dig_bounds u c hc)
 ·obtain ⟨u,hu⟩:∃u:Nat,n=-(u:Int):=⟨(-n).toNat,by omega⟩
  subst hu
  rw [Lib.itoa_neg u (by omega)]
  intro c hc
  rcases List.mem_cons.1 hc with rfl|hc
  ·exact .inl rfl
  ·exact .inr (dig_bounds u c hc)
theorem dig_sp {u:Nat}:∀c∈Lib.decDigits u,c≠32:=fun c hc e=>by
 subst e;have:=dig_bounds u _ hc;simp at this
theorem itoa_sp {n:Int}:∀c∈Lib.itoa n,c≠32:=fun c hc e=>by
 subst e;rcases itoa_chars _ hc with h|h
 ·cases h
 ·simp at h
theorem ch_sp {b:Bool} {y n:Str} (h1:∀c∈y,c≠32) (h2:∀c∈n,c≠32):∀c∈ch b y n,c≠32:=by cases b<;>assumption
def NS (l:Str):Prop:=∀c∈l,c≠32
theorem wds_sp (m:GSummary):∀w∈wds m,∀c∈w,c≠32:=by
 have lit:∀{l:Str},(l.all fun c=>c != 32)=true→∀c∈l,c≠32:=fun h c hc=>by
  have:=List.all_eq_true.1 h c hc
  simpa using this
 show ∀w∈wds m,NS w
 unfold wds
 simp only [List.forall_mem_cons]
 exact ⟨lit (by decide),dig_sp,lit (by decide),itoa_sp,ch_sp (lit (by decide)) (lit (by decide)),lit (by decide),itoa_sp,lit (by decide),itoa_sp,lit (by decide),itoa_sp,lit (by decide),itoa_sp,lit (by decide),itoa_sp,lit (by decide),itoa_sp,
  ch_sp (lit (by decide)) (lit (by decide)),ch_sp (lit (by decide)) (lit (by decide)),fun _ h=>by cases h⟩
theorem spl_ltx (m:GSummary):spl 32 (ltx m)=wds m:=spl_join _ _ (wds_sp m)
def zS:GSummary:=GSummary.mk 0 0 false 0 0 (GSeverity.mk 0 0 0 0) false false
def setF (o:Nat) (v:Int) (m:GSummary):GSummary:=match o with
 | 1=>{ m with Spots:=v }
 | 3=>{ m with Readers:=v }
 | 4=>{ m with Since:=v }
 | 5=>{ m with Severity:={ m.Severity with Level:=v } }
 | 6=>{ m with Severity:={ m.Severity with Worth:=v } }
 | 7=>{ m with Severity:={ m.Severity with Audience:=v } }
 | 8=>{ m with Severity:={ m.Severity with Score:=v } }
 | _=>m
abbrev es43:List (Int×Nat):=[(3,1),(6,3),(8,4),(10,5),(12,6),(14,7),(16,8)]
def bdy (y:List Str) (s:Bool×GSummary) (a:Int×Nat):Bool×GSummary:=(s.1||!atoiB (y.getD a.1.toNat default),setF a.2 (atoiV (y.getD a.1.toNat default)) s.2)
theorem L1_eq {y:List Str} (hy:y.length=19) (hl:∀k,(y.getD k default).length≤281474976710656) {a:Int×Nat} (ha:a∈es43) (k:Int) (s:Bool×GSummary):F_4 y k a s=some (bdy y s a):=by
 have at':∀k,atoiE (y.getD k default)=some (atoiV (y.getD k default),atoiB (y.getD k default)):=fun k=>chk_true (decide_eq_true (hl k))
 have ib:∀k:Int,0≤k→k<19→inb k y.length=true:=fun k h0 h1=>inb_iff.2 ⟨h0,by omega⟩
 simp only [es43,List.mem_cons,List.not_mem_nil,or_false] at ha
 rcases ha with rfl|rfl|rfl|rfl|rfl|rfl|rfl
 ·show chk (inb 3 y.length) ((atoiE (y.getD 3 default)).bind _)=_
  rw [chk_true (ib 3 (by decide) (by decide)),at'];rfl
 ·show chk (inb 6 y.length) ((atoiE (y.getD 6 default)).bind _)=_
  rw [chk_true (ib 6 (by decide) (by decide)),at'];rfl
 ·show chk (inb 8 y.length) ((atoiE (y.getD 8 default)).bind _)=_
  rw [chk_true (ib 8 (by decide) (by decide)),at'];rfl
 ·show chk (inb 10 y.length) ((atoiE (y.getD 10 default)).bind _)=_
  rw [chk_true (ib 10 (by decide) (by decide)),at'];rfl
 ·show chk (inb 12 y.length) ((atoiE (y.getD 12 default)).bind _)=_
  rw [chk_true (ib 12 (by decide) (by decide)),at'];rfl
 ·show chk (inb 14 y.length) ((atoiE (y.getD 14 default)).bind _)=_
  rw [chk_true (ib 14 (by decide) (by decide)),at'];rfl
 ·show chk (inb 16 y.length) ((atoiE (y.getD 16 default)).bind _)=_
  rw [chk_true (ib 16 (by decide) (by decide)),at'];rfl
theorem fold_eq {y:List Str} (hy:y.length=19) (hl:∀k,(y.getD k default).length≤281474976710656):∀(l:List (Int×Nat)) (k:Int) (s:Bool×GSummary),(∀a∈l,a∈es43)→foldL (F_4 y) l k s=some (l.foldl (bdy y) s)
 | [],k,s,_=>rfl
 | a::l,k,s,h=>by
  simp only [foldL,L1_eq hy hl (h a (by simp)),Option.bind_some,List.foldl_cons]
  exact fold_eq hy hl l (k+1) _ fun b hb=>h b (by simp [hb])
theorem bdy_comm {y:List Str}:∀a∈es43,∀b∈es43,∀s,bdy y (bdy y s a) b=bdy y (bdy y s b) a:=by
 intro a ha b hb s
 have hB:∀p q r:Bool,((p||q)||r)=((p||r)||q):=by decide
 unfold bdy
 refine Prod.ext (hB _ _ _) ?_
 show setF b.2 _ (setF a.2 _ s.2)=setF a.2 _ (setF b.2 _ s.2)
 simp only [es43,List.mem_cons,List.not_mem_nil,or_false] at ha hb
 rcases ha with rfl|rfl|rfl|rfl|rfl|rfl|rfl<;>rcases hb with rfl|rfl|rfl|rfl|rfl|rfl|rfl<;>rfl
def badW (y:List Str):Bool:=!(atoiB (y.getD 3 default)&&atoiB (y.getD 6 default)&&atoiB (y.getD 8 default)&&atoiB (y.getD 10 default)&&atoiB (y.getD 12 default)&&atoiB (y.getD 14 default)&&atoiB (y.getD 16 default))
def tS (u:Int) (y:List Str):GSummary:=GSummary.mk u (atoiV (y.getD 3 default)) (decide ((y.getD 4 default)=wPub)) (atoiV (y.getD 6 default)) (atoiV (y.getD 8 default))
 (GSeverity.mk (atoiV (y.getD 10 default)) (atoiV (y.getD 12 default)) (atoiV (y.getD 14 default)) (atoiV (y.getD 16 default))) (decide ((y.getD 17 default)=wRot)) (decide ((y.getD 18 default)=wDead))
theorem tS_ok {u:Int} (h0:0≤u) (h1:u≤18446744073709551615) (y:List Str):SV (tS u y):=by
 have r:∀s,in64 (atoiV s)=true:=fun s=>by have:=atoiV_rng s;rw [rng64] at this;exact this
 exact ⟨h0,h1,r _,r _,r _,r _,r _,r _,r _⟩
theorem puE_all {s:Str} (h:s.length≤281474976710656):∃u b,puE s 10 64=some (u,b)∧0≤u∧u≤18446744073709551615:=by
 unfold puE
 rw [chk_true (by simp [h])]
 cases e:Lib.parseUintB 64 s with
 | ok u=>exact ⟨u,true,rfl,by omega,by have:=Lib.parseUintB_le e;simp at this;omega⟩
 | range=>exact ⟨_,_,rfl,by decide,by decide⟩
 | _=>exact ⟨0,false,rfl,by decide,by decide⟩
theorem puE_dig {u:Nat} (h:u≤18446744073709551615):puE (Lib.decDigits u) 10 64=some ((u:Int),true):=by
 have hl:=dec_len (u:=u) (by omega)
 unfold puE
 rw [chk_true (by simp;omega),Lib.parseUintB_64,mag_dig u h]
theorem spl_piece (b:UInt8) (s:Str) (k:Nat):((spl b s).getD k default).length≤s.length:=by
 by_cases h:k<(spl b s).length
 ·have:(spl b s).getD k default∈spl b s:=by rw [List.getD_eq_getElem?_getD,List.getElem?_eq_getElem h];exact List.getElem_mem h
  exact spl_len b s _ this
 ·rw [List.getD_eq_getElem?_getD,List.getElem?_eq_none (by omega)];exact Nat.zero_le _
theorem prog_eq {t:Str} (ht:t.length≤1000):∃u:Int,0≤u∧u≤18446744073709551615∧(∀m,SV m→spl 32 t=wds m→u=m.Fingerprint) ∧
  ((∃b,F_2 t=some (bif b||(!decide ((spl 32 t).length=19)||!decide (ltx (tS u (spl 32 t))=t)) then (zS,4) else (tS u (spl 32 t),0))∧(∀m,SV m→spl 32 t=wds m→b=false))):=by
 have es:splI t [32]=some (spl 32 t):=by
  unfold splI;simp only;rw [decide_eq_true (by omega)];rfl
 have hl:∀k,((spl 32 t).getD k default).length≤281474976710656:=fun k=>Nat.le_trans (spl_piece 32 t k) (by omega)
 obtain ⟨u,bu,hu,h0,h1⟩:=puE_all (hl 1)
 refine ⟨u,h0,h1,fun m hm e=>?_,?_⟩
 ·rw [e] at hu
  have h2:puE ((wds m).getD 1 default) 10 64=some ((m.Fingerprint.toNat:Int),true):=puE_dig (by have:=hm.f1;omega)
  rw [h2] at hu
  have:=congrArg Prod.fst (Option.some.inj hu)
  simp only at this
  have:=hm.f0;omega
 ·generalize hy:spl 32 t=y at es hl hu
  by_cases h19:y.length=19
  ·have hperm:∀l,l.Perm es43→foldL (F_4 y) l 0 (!bu,zS)=some (es43.foldl (bdy y) (!bu,zS)):=fun l hp=>by
    rw [fold_eq h19 hl l 0 _ fun a ha=>hp.mem_iff.1 ha]
    exact congrArg some (List.Perm.foldl_eq' hp (fun a ha b hb s=>bdy_comm a (hp.mem_iff.1 ha) b (hp.mem_iff.1 hb) s) _)
   have hfin:es43.foldl (bdy y) (!bu,zS)=(!bu||badW y,{ tS u y with Fingerprint:=0,Public:=false,Rotated:=false,Dead:=false }):=by
    refine Prod.ext ?_ rfl
    show (((((((!bu||!atoiB _)||!atoiB _)||!atoiB _)||!atoiB _)||!atoiB _)||!atoiB _)||!atoiB _)=_
    unfold badW
    have:∀a b c d e f g h:Bool,(((((((!a||!b)||!c)||!d)||!e)||!f)||!g)||!h)=(!a||!(b&&c&&d&&e&&f&&g&&h)):=by decide
    exact this _ _ _ _ _ _ _ _
   refine ⟨!bu||badW y,?_,fun m hm e=>?_⟩
   ·refine Ok.eq ?_
    unfold F_2
    refine Ok.bind (Ok.of es rfl) fun y' e=>?_
    subst e
    refine Ok.ite (fun hc=>by simp [h19] at hc) fun _=>?_
    refine Ok.chk (inb_iff.2 ⟨by decide,by omega⟩) (Ok.bind (Ok.of hu rfl) fun q e=>?_)
    subst e
    refine Ok.of (permL_of fun l hp=>?_) rfl
    show ((foldL (F_4 y) l 0 (!bu,zS)).bind _)=_
    rw [hperm l hp,hfin,Option.bind_some,chk_true (inb_iff.2 ⟨by decide,by omega⟩),chk_true (inb_iff.2 ⟨by decide,by omega⟩),chk_true (inb_iff.2 ⟨by decide,by omega⟩)]
    cases hw:(!bu||badW y) with
    | true=>simp only [cond_true,Bool.true_or];rfl
    | false =>
     simp only [cond_false,Bool.false_or]
     show ((F_3 (tS u y)).bind fun y127=>bif !decide (y127=t) then some (zS,4) else some (tS u y,0))=_
     rw [text_p (tS_ok h0 h1 y),Option.bind_some]
     rw [decide_eq_true h19,Bool.not_true,Bool.false_or]
     cases hd:(!decide (ltx (tS u y)=t))<;>rfl
   ·have hat:∀{n:Int},in64 n=true→atoiB (Lib.itoa n)=true:=fun {n} h=>by
     have:=atoiE_all (in64_iff.1 h).1 (in64_iff.1 h).2
     have:=(atoiE_inv this).2
     have:=congrArg Prod.snd this
     exact this.symm
    rw [e] at hu
    have h2:puE ((wds m).getD 1 default) 10 64=some ((m.Fingerprint.toNat:Int),true):=puE_dig (by have:=hm.f1;omega)
    rw [h2] at hu
    have hb:=congrArg Prod.snd (Option.some.inj hu)
    simp only at hb
    subst hb
    rw [e]
    unfold badW
    show (!true||!(atoiB (Lib.itoa _)&&atoiB (Lib.itoa _)&&atoiB (Lib.itoa _)&&atoiB (Lib.itoa _)&&atoiB (Lib.itoa _)&&atoiB (Lib.itoa _)&&atoiB (Lib.itoa _)))=false
    rw [hat hm.a,hat hm.b,hat hm.c,hat hm.d,hat hm.e,hat hm.f,hat hm.g];rfl
  ·refine ⟨true,?_,fun m hm e=>absurd (by rw [e];rfl) h19⟩
   refine Ok.eq ?_
   unfold F_2
   refine Ok.bind (Ok.of es rfl) fun y' e=>?_
   subst e
   refine Ok.ite (fun _=>Ok.ret rfl) fun hc=>?_
   simp at hc;omega
theorem tS_wds {m:GSummary} (hm:SV m):tS m.Fingerprint (wds m)=m:=by
 have hat:∀{n:Int},in64 n=true→atoiV (Lib.itoa n)=n:=fun {n} h=>by
  have:=atoiE_all (in64_iff.1 h).1 (in64_iff.1 h).2
  exact (congrArg Prod.fst (atoiE_inv this).2).symm
 have c1:∀b,decide (ch b wPub wIns=wPub)=b:=fun b=>by cases b<;>decide
 have c2:∀b,decide (ch b wRot wVal=wRot)=b:=fun b=>by cases b<;>decide
 have c3:∀b,decide (ch b wDead wAli=wDead)=b:=fun b=>by cases b<;>decide
 show GSummary.mk m.Fingerprint (atoiV (Lib.itoa _)) (decide (ch _ wPub wIns=wPub)) (atoiV (Lib.itoa _)) (atoiV (Lib.itoa _)) (GSeverity.mk (atoiV (Lib.itoa _)) (atoiV (Lib.itoa _)) (atoiV (Lib.itoa _)) (atoiV (Lib.itoa _))) (decide (ch _ wRot wVal=wRot)) (decide (ch _ wDead wAli=wDead))=m
 rw [hat hm.a,hat hm.b,hat hm.c,hat hm.d,hat hm.e,hat hm.f,hat hm.g,c1,c2,c3]
def Res43 (t:Str) (r:GSummary×Int):Prop:=(∃m,SV m∧ltx m=t∧r=(m,0))∨((∀m,SV m→ltx m≠t)∧r=(zS,4))
theorem prog43 {t:Str} (ht:t.length≤1000):Ok (F_2 t) (Res43 t):=by
 obtain ⟨u,h0,h1,hm,b,hb,hbf⟩:=prog_eq ht
 refine ⟨_,hb,?_⟩
 by_cases h:∃m,SV m∧ltx m=t
 ·obtain ⟨m,hm1,rfl⟩:=h
  have e:=spl_ltx m
  have e1:=hm m hm1 e
  subst e1
  rw [hbf m hm1 e,e,tS_wds hm1]
  refine .inl ⟨m,hm1,rfl,?_⟩
  simp [wds]
 ·refine .inr ⟨fun m hm1 e=>h ⟨m,hm1,e⟩,?_⟩
  have:decide (ltx (tS u (spl 32 t))=t)=false:=decide_eq_false fun e=>h ⟨_,tS_ok h0 h1 _,e⟩
  rw [this];simp
theorem res_inj {t:Str} {r r':GSummary×Int} (h:Res43 t r) (h':Res43 t r'):r=r':=by
 rcases h with ⟨m,hm,e,rfl⟩|⟨h,rfl⟩<;>rcases h' with ⟨m',hm',e',rfl⟩|⟨h',rfl⟩
 ·have e1:=spl_ltx m
  have e2:=spl_ltx m'
  rw [e] at e1;rw [e'] at e2
  have e3:wds m=wds m':=e1.symm.trans e2
  have hf:m.Fingerprint=m'.Fingerprint:=by
   have h1:puE ((wds m).getD 1 default) 10 64=some ((m.Fingerprint.toNat:Int),true):=puE_dig (by have:=hm.f1;omega)
   have h2:puE ((wds m').getD 1 default) 10 64=some ((m'.Fingerprint.toNat:Int),true):=puE_dig (by have:=hm'.f1;omega)
   rw [e3,h2] at h1
   have:=congrArg Prod.fst (Option.some.inj h1)
   simp only at this
   have:=hm.f0;have:=hm'.f0;omega
  have h1:=tS_wds hm
  have h2:=tS_wds hm'
  rw [e3,hf,h2] at h1
  rw [h1]
 ·exact absurd e (h' m hm)
 ·exact absurd e' (h m' hm')
 ·rfl
end Go.Ab
set_option maxRecDepth 20000
namespace Go.Ab
open Go.Proofs
theorem rsplit {s:Str} (h:s.length≤1000):F_b s 32=some (spl 32 s):=by
 refine Ok.eq ?_
 unfold F_b
 refine Ok.bind (Ok.loop (Q:=fun r:Int×List Str=>0≤r.1∧r.1≤s.length∧r.2.length≤s.length∧r.2++[s.drop r.1.toNat]=spl 32 s)
  (fun x:Int×Int×List Str=>∃a i:Nat,x.1=(a:Int)∧x.2.1=(i:Int)∧a≤i∧i≤s.length∧x.2.2.length≤i∧x.2.2++glue ((s.take i).drop a) (spl 32 (s.drop i))=spl 32 s)
  (fun x=>((s.length:Int) - x.2.1).toNat) (fun x hx=>?_) _ ⟨0,0,rfl,rfl,Nat.le_refl _,Nat.zero_le _,Nat.zero_le _,?_⟩) fun r hr=>?_
 ·obtain ⟨x1,x2,out⟩:=x
  obtain ⟨a,i,rfl,rfl,ha,hi,hlen,he⟩:=hx
  simp only at hlen he
  unfold F_g
  refine Ok.ite (fun hc=>?_) fun hc=>?_
  ·have hlt:i<s.length:=by have:=of_decide_eq_true hc;simp only at this;omega
   have hd:s.drop i=s[i]::s.drop (i+1):=List.drop_eq_getElem_cons hlt
   have hg:s.getD i 0=s[i]:=by rw [List.getD_eq_getElem?_getD,List.getElem?_eq_getElem hlt];rfl
   have htk:(s.take (i+1)).drop a=(s.take i).drop a++[s[i]]:=by
    rw [List.take_succ_eq_append_getElem hlt,List.drop_append_of_le_length (by simp;omega)]
   have i1:in64 ((i:Int)+1)=true:=in64_iff.2 ⟨by omega,by omega⟩
   refine Ok.jn (P:=fun j:Int×List Str=>∃a':Nat,j.1=a'∧a'≤i+1∧j.2.length≤i+1∧j.2++glue ((s.take (i+1)).drop a') (spl 32 (s.drop (i+1)))=spl 32 s) ?_ fun j hj=>?_
   ·refine Ok.chk (inb_iff.2 ⟨by simp,by simpa using hlt⟩) (Ok.ite (fun hb=>?_) fun hb=>?_)
    ·have hb':s[i]=32:=by
      have:=of_decide_eq_true hb
      simp only [Int.toNat_natCast,hg] at this
      exact UInt8.toNat_inj.1 (by have h32:(32:UInt8).toNat=32:=rfl;omega)
     refine Ok.chk (inc_iff.2 ⟨by simp,by simp;omega,by simp;omega⟩) (Ok.chk (room_iff.2 (by simp;omega)) (Ok.chk i1 (Ok.ret ⟨i+1,by simp,Nat.le_refl _,by simp;omega,?_⟩)))
     simp only [Int.toNat_natCast]
     rw [hd,hb',spl,if_pos rfl] at he
     rw [←he,show (s.take (i+1)).drop (i+1)=[] from List.drop_eq_nil_of_le (by simp;omega),glue_nil (spl_ne 32 _)]
     simp [glue]
    ·have hb':s[i]≠32:=fun e=>by
      have:=of_decide_eq_false hb
      simp only [Int.toNat_natCast,hg,e] at this
      simp at this
     refine Ok.ret ⟨a,rfl,by omega,by simp;omega,?_⟩
     rw [hd,spl,if_neg hb',glue_glue] at he
     rw [htk,he]
   ·obtain ⟨a',e1,h1,h2,h3⟩:=hj
    refine Ok.chk i1 (Ok.ret ⟨⟨a',i+1,e1,by simp,h1,hlt,h2,h3⟩,?_⟩)
    simp only;omega
  ·have hge:i=s.length:=by have:=of_decide_eq_false hc;simp only at this;omega
   subst hge
   refine Ok.ret ⟨by simp,by simp;omega,by simpa using hlen,?_⟩
   rw [List.drop_length,List.take_length] at he
   simpa [spl,glue] using he
 ·simp only [List.take_zero,List.drop_nil,List.drop_zero,List.nil_append]
  exact glue_nil (spl_ne 32 s)
 ·obtain ⟨h0,h1,h2,h3⟩:=hr
  exact Ok.chk (inc_iff.2 ⟨h0,h1,by omega⟩) (Ok.chk (room_iff.2 (by simp;omega)) (Ok.ret h3))
theorem wu (n:Int):IntKind.wrap .u64 n=n % 18446744073709551616:=by
 simp only [IntKind.wrap,IntKind.signed,IntKind.bits];simp
theorem wi (n:Int):IntKind.wrap .i64 n=if 9223372036854775808≤n % 18446744073709551616 then n % 18446744073709551616 - 18446744073709551616 else n % 18446744073709551616:=by
 simp only [IntKind.wrap,IntKind.signed,IntKind.bits];simp
theorem wi_in (n:Int):in64 (IntKind.wrap .i64 n)=true:=by
 rw [wi,in64_iff];split<;>omega
def val (l:Str):Nat:=l.foldl (fun a c=>10*a+(c.toNat - 48)) 0
theorem val_snoc (l:Str) (c:UInt8):val (l++[c])=10*val l+(c.toNat - 48):=by simp [val]
theorem val_dec (u:Nat):val (Lib.decDigits u)=u:=by
 induction u using Nat.strongRecOn with
 | _ u ih =>
  rw [Lib.decDigits]
  split
  ·have e:(UInt8.ofNat (48+u)).toNat=48+u:=by simp;omega
   simp only [val,List.foldl_cons,List.foldl_nil,e];omega
  ·have e:(UInt8.ofNat (48+u % 10)).toNat=48+u % 10:=by simp;omega
   rw [val_snoc,ih (u / 10) (by omega),e];omega
theorem val_le (l:Str) (i:Nat):val (l.take i)≤val l:=by
 have h:∀(r:Str) (a:Nat),a≤r.foldl (fun a c=>10*a+(c.toNat - 48)) a:=by
  intro r
  induction r with
  | nil=>intro a;exact Nat.le_refl _
  | cons c r ih=>intro a;rw [List.foldl_cons];exact Nat.le_trans (by omega) (ih _)
 conv=>rhs;rw [←List.take_append_drop i l]
 unfold val
 rw [List.foldl_append]
 exact h _ _
theorem rg8 (n:Int):rngb .u64 ((u8 n).toNat:Int)=true:=by
 have:=(u8 n).toNat_lt
 simp [rngb,IntKind.min,IntKind.max,IntKind.signed,IntKind.bits];omega
theorem digits_all {s:Str} (h:s.length≤1000):Ok (F_1 s) (fun y=>0≤y.1∧y.1≤18446744073709551615):=by
 unfold F_1
 refine Ok.grp (Ok.ite (fun _=>Ok.ret ⟨by decide,by decide⟩) fun _=>?_)
 refine Ok.bind (Ok.loop (Q:=fun r:Sum Int (Int×Bool)=>Sum.elim (fun u=>0≤u∧u≤18446744073709551615) (fun y=>0≤y.1∧y.1≤18446744073709551615) r)
  (fun x:Int×Int=>0≤x.1∧x.1≤18446744073709551615∧0≤x.2∧x.2≤(s.length:Int)) (fun x=>((s.length:Int) - x.2).toNat) (fun x hx=>?_) _ ⟨by decide,by decide,by decide,by simp⟩) fun r hr=>?_
 ·obtain ⟨n,i⟩:=x
  obtain ⟨h0,h1,h2,h3⟩:=hx
  simp only at h0 h1 h2 h3
  unfold F_e
  refine Ok.ite (fun hc=>?_) fun hc=>Ok.ret ⟨h0,h1⟩
  have hlt:=of_decide_eq_true hc
  simp only at hlt
  have ib:inb i s.length=true:=inb_iff.2 ⟨h2,hlt⟩
  have h8:=(u8 (((s.getD i.toNat 0).toNat:Int) - 48)).toNat_lt
  refine Ok.chk ib (Ok.chk (rg8 _) (Ok.chk ib (Ok.ite (fun _=>Ok.ret ⟨by decide,by decide⟩) fun _=>Ok.chk ib (Ok.ite (fun _=>Ok.ret ⟨by decide,by decide⟩) fun _=>Ok.chk (divs_iff.2 ⟨by rw [wu];omega,by decide⟩) (Ok.ite (fun _=>Ok.ret ⟨by decide,by decide⟩) fun _=>Ok.chk (in64_iff.2 ⟨by simp only;omega,by simp only;omega⟩) (Ok.ret ⟨⟨?_,?_,by simp only;omega,by simp only;omega⟩,by simp only;omega⟩))))))
  ·simp only [wu];omega
  ·simp only [wu];omega
 ·cases r with
  | inl u=>exact Ok.ret hr
  | inr y=>exact Ok.ret hr
theorem digits_dec {u:Nat} (hu:u≤18446744073709551615):F_1 (Lib.decDigits u)=some ((u:Int),true):=by
 have hl:=dec_len (u:=u) (by omega)
 have hb:=dig_bounds u
 have hv:=val_dec u
 have hp:0<(Lib.decDigits u).length:=List.length_pos_iff.2 (dec_ne u)
 generalize Lib.decDigits u=s at *
 refine Ok.eq ?_
 unfold F_1
 refine Ok.grp (Ok.ite (fun hc=>by simp only [Bool.or_eq_true,decide_eq_true_eq] at hc;omega) fun _=>?_)
 refine Ok.bind (Ok.loop (Q:=fun r:Sum Int (Int×Bool)=>r=.inl (u:Int))
  (fun x:Int×Int=>∃i:Nat,x.2=(i:Int)∧i≤s.length∧x.1=(val (s.take i):Int)) (fun x=>((s.length:Int) - x.2).toNat) (fun x hx=>?_) _ ⟨0,rfl,Nat.zero_le _,rfl⟩) fun r hr=>by subst hr;exact Ok.ret rfl
 obtain ⟨n,i'⟩:=x
 obtain ⟨i,rfl,h3,rfl⟩:=hx
 unfold F_e
 refine Ok.ite (fun hc=>?_) fun hc=>?_
 ·have hlt:i<s.length:=by have:=of_decide_eq_true hc;simp only at this;omega
  have ib:inb (i:Int) s.length=true:=inb_iff.2 ⟨by omega,by omega⟩
  have hg:s.getD i 0=s[i]:=by rw [List.getD_eq_getElem?_getD,List.getElem?_eq_getElem hlt];rfl
  have hcb:=hb s[i] (List.getElem_mem hlt)
  have htk:val (s.take (i+1))=10*val (s.take i)+(s[i].toNat - 48):=by rw [List.take_succ_eq_append_getElem hlt,val_snoc]
  have hle:=val_le s (i+1)
  have hu8:((u8 (((s.getD i 0).toNat:Int) - 48)).toNat:Int)=(s[i].toNat:Int) - 48:=by rw [u8_toNat,hg];omega
  simp only [Int.toNat_natCast]
  refine Ok.chk ib (Ok.chk (rg8 _) (Ok.chk ib (Ok.ite (fun hc=>?_) fun _=>Ok.chk ib (Ok.ite (fun hc=>?_) fun _=>Ok.chk (divs_iff.2 ⟨?_,by decide⟩) (Ok.ite (fun hc=>?_) fun _=>Ok.chk (in64_iff.2 ⟨by omega,by omega⟩) (Ok.ret ⟨⟨i+1,by simp,hlt,?_⟩,by simp only;omega⟩))))))
  ·have:=of_decide_eq_true hc;rw [hg] at this;omega
  ·have:=of_decide_eq_true hc;rw [hg] at this;omega
  ·rw [hu8,wu];omega
  ·have:=of_decide_eq_true hc;rw [hu8,wu] at this;omega
  ·simp only [hu8,wu,htk];omega
 ·have hge:i=s.length:=by have:=of_decide_eq_false hc;simp only at this;omega
  subst hge
  refine Ok.ret ?_
  show Sum.inl ((val (s.take s.length):Nat):Int)=Sum.inl (u:Int)
  rw [List.take_length,hv]
theorem number_all {s:Str} (h:s.length≤1000):Ok (F_0 s) (fun y=>in64 y=true):=by
 unfold F_0
 refine Ok.jn (P:=fun b=>b=true→1≤s.length) ?_ fun b hb=>?_
 ·exact Ok.ite (fun hc=>Ok.chk (inb_iff.2 ⟨by decide,by have:=of_decide_eq_true hc;omega⟩) (Ok.ret fun _=>by have:=of_decide_eq_true hc;omega)) fun _=>Ok.ret fun h=>by cases h
 ·refine Ok.ite (fun hc=>?_) fun _=>?_
  ·exact Ok.chk (inc_iff.2 ⟨by decide,by have:=hb hc;omega,by omega⟩) (Ok.bind (digits_all (by simp;omega)) fun y _=>Ok.ret (wi_in _))
  ·exact Ok.bind (digits_all h) fun y _=>Ok.ret (wi_in _)
theorem number_itoa {n:Int} (h:in64 n=true):F_0 (Lib.itoa n)=some n:=by
 obtain ⟨h0,h1⟩:=in64_iff.1 h
 by_cases c:0≤n
 ·obtain ⟨u,rfl⟩:=Int.eq_ofNat_of_zero_le c
  rw [Lib.itoa_nonneg]
  have hd:=digits_dec (u:=u) (by omega)
  have hb:=dig_bounds u
  have hne:=dec_ne u
  refine Ok.eq ?_
  unfold F_0
  refine Ok.jn (P:=fun b=>b=false) ?_ fun b hb=>?_
  ·cases hs:Lib.decDigits u with
   | nil=>exact absurd hs hne
   | cons c r =>
    have:=hb c (by rw [hs];simp)
    refine Ok.ite (fun _=>Ok.chk (inb_iff.2 ⟨by decide,by simp⟩) (Ok.ret (decide_eq_false ?_))) fun _=>Ok.ret rfl
    simp;omega
  ·subst hb
   refine Ok.ite (fun h=>by cases h) fun _=>Ok.bind (Ok.of hd rfl) fun y e=>?_
   subst e
   refine Ok.ret ?_
   simp only [wi];split<;>omega
 ·obtain ⟨u,hu⟩:∃u:Nat,n=-(u:Int):=⟨(-n).toNat,by omega⟩
  subst hu
  rw [Lib.itoa_neg u (by omega)]
  have hd:=digits_dec (u:=u) (by omega)
  refine Ok.eq ?_
  unfold F_0
  refine Ok.jn (P:=fun b=>b=true) ?_ fun b hb=>?_
  ·exact Ok.ite (fun _=>Ok.chk (inb_iff.2 ⟨by decide,by simp⟩) (Ok.ret (by simp))) fun hc=>by simp at hc
  ·subst hb
   refine Ok.ite (fun _=>Ok.chk (inc_iff.2 ⟨by decide,by simp;omega,by omega⟩) (Ok.bind (Ok.of (show F_1 ((45::Lib.decDigits u).drop 1)=_ from hd) rfl) fun y e=>?_)) fun h=>by cases h
   subst e
   refine Ok.ret ?_
   simp only [wi,wu];split<;>omega
theorem ref43 {t:Str} (ht:t.length≤1000):Ok (F_c t) (Res43 t):=by
 have es:=rsplit ht
 have hl:∀k,((spl 32 t).getD k default).length≤1000:=fun k=>Nat.le_trans (spl_piece 32 t k) ht
 unfold F_c
 refine Ok.bind (Ok.of es rfl) fun y e=>?_
 subst e
 by_cases h:∃m,SV m∧ltx m=t
 ·obtain ⟨m,hm,rfl⟩:=h
  rw [spl_ltx]
  have ib:∀k:Int,0≤k→k<19→inb k (wds m).length=true:=fun k h0 h1=>inb_iff.2 ⟨h0,h1⟩
  have hd:=digits_dec (u:=m.Fingerprint.toNat) (by have:=hm.f1;omega)
  refine Ok.ite (fun hc=>by simp [wds] at hc) fun _=>Ok.chk (ib 1 (by decide) (by decide)) (Ok.bind (Ok.of hd rfl) fun y e=>?_)
  subst e
  refine Ok.chk (ib 3 (by decide) (by decide)) (Ok.bind (Ok.of (number_itoa hm.a) rfl) fun y e=>?_)
  subst e
  refine Ok.chk (ib 4 (by decide) (by decide)) (Ok.chk (ib 6 (by decide) (by decide)) (Ok.bind (Ok.of (number_itoa hm.b) rfl) fun y e=>?_))
  subst e
  refine Ok.chk (ib 8 (by decide) (by decide)) (Ok.bind (Ok.of (number_itoa hm.c) rfl) fun y e=>?_)
  subst e
  refine Ok.chk (ib 10 (by decide) (by decide)) (Ok.bind (Ok.of (number_itoa hm.d) rfl) fun y e=>?_)
  subst e
  refine Ok.chk (ib 12 (by decide) (by decide)) (Ok.bind (Ok.of (number_itoa hm.e) rfl) fun y e=>?_)
  subst e
  refine Ok.chk (ib 14 (by decide) (by decide)) (Ok.bind (Ok.of (number_itoa hm.f) rfl) fun y e=>?_)
  subst e
  refine Ok.chk (ib 16 (by decide) (by decide)) (Ok.bind (Ok.of (number_itoa hm.g) rfl) fun y e=>?_)
  subst e
  have c1:∀b,decide (ch b wPub wIns=wPub)=b:=fun b=>by cases b<;>decide
  have c2:∀b,decide (ch b wRot wVal=wRot)=b:=fun b=>by cases b<;>decide
  have c3:∀b,decide (ch b wDead wAli=wDead)=b:=fun b=>by cases b<;>decide
  have em:GSummary.mk ((m.Fingerprint.toNat:Nat):Int) m.Spots (decide ((wds m).getD 4 default=wPub)) m.Readers m.Since (GSeverity.mk m.Severity.Level m.Severity.Worth m.Severity.Audience m.Severity.Score) (decide ((wds m).getD 17 default=wRot)) (decide ((wds m).getD 18 default=wDead))=m:=by
   show GSummary.mk _ _ (decide (ch _ wPub wIns=wPub)) _ _ _ (decide (ch _ wRot wVal=wRot)) (decide (ch _ wDead wAli=wDead))=m
   rw [c1,c2,c3,show ((m.Fingerprint.toNat:Nat):Int)=m.Fingerprint by have:=hm.f0;omega]
  refine Ok.chk (ib 17 (by decide) (by decide)) (Ok.chk (ib 18 (by decide) (by decide)) ?_)
  show Ok ((F_5 (GSummary.mk ((m.Fingerprint.toNat:Nat):Int) m.Spots (decide ((wds m).getD 4 default=wPub)) m.Readers m.Since (GSeverity.mk m.Severity.Level m.Severity.Worth m.Severity.Audience m.Severity.Score) (decide ((wds m).getD 17 default=wRot)) (decide ((wds m).getD 18 default=wDead)))).bind fun y22=>bif (!decide (y22=ltx m)) then some (zS,4) else some (GSummary.mk ((m.Fingerprint.toNat:Nat):Int) m.Spots (decide ((wds m).getD 4 default=wPub)) m.Readers m.Since (GSeverity.mk m.Severity.Level m.Severity.Worth m.Severity.Audience m.Severity.Score) (decide ((wds m).getD 17 default=wRot)) (decide ((wds m).getD 18 default=wDead)),0)) _
  rw [em]
  refine Ok.bind (Ok.of (text_r hm) rfl) fun y e=>?_
  subst e
  exact Ok.ite (fun hc=>by simp at hc) fun _=>Ok.ret (.inl ⟨m,hm,rfl,rfl⟩)
 ·have no:∀m,SV m→ltx m≠t:=fun m h1 e=>h ⟨m,h1,e⟩
  generalize spl 32 t=y at hl
  refine Ok.ite (fun _=>Ok.ret (.inr ⟨no,rfl⟩)) fun hc=>?_
  have h19:(y.length:Int)=19:=by simpa using hc
  have ib:∀k:Int,0≤k→k<19→inb k y.length=true:=fun k h0 h1=>inb_iff.2 ⟨h0,by omega⟩
  refine Ok.chk (ib 1 (by decide) (by decide)) (Ok.bind (digits_all (hl 1)) fun u hu=>?_)
  refine Ok.chk (ib 3 (by decide) (by decide)) (Ok.bind (number_all (hl 3)) fun n1 g1=>?_)
  refine Ok.chk (ib 4 (by decide) (by decide)) (Ok.chk (ib 6 (by decide) (by decide)) (Ok.bind (number_all (hl 6)) fun n2 g2=>?_))
  refine Ok.chk (ib 8 (by decide) (by decide)) (Ok.bind (number_all (hl 8)) fun n3 g3=>?_)
  refine Ok.chk (ib 10 (by decide) (by decide)) (Ok.bind (number_all (hl 10)) fun n4 g4=>?_)
  refine Ok.chk (ib 12 (by decide) (by decide)) (Ok.bind (number_all (hl 12)) fun n5 g5=>?_)
  refine Ok.chk (ib 14 (by decide) (by decide)) (Ok.bind (number_all (hl 14)) fun n6 g6=>?_)
  refine Ok.chk (ib 16 (by decide) (by decide)) (Ok.bind (number_all (hl 16)) fun n7 g7=>?_)
  refine Ok.chk (ib 17 (by decide) (by decide)) (Ok.chk (ib 18 (by decide) (by decide)) ?_)
  have hs:∀p q r,SV (GSummary.mk u.1 n1 p n2 n3 (GSeverity.mk n4 n5 n6 n7) q r):=fun _ _ _=>⟨hu.1,hu.2,g1,g2,g3,g4,g5,g6,g7⟩
  refine Ok.bind (Ok.of (text_r (hs _ _ _)) rfl) fun z e=>?_
  subst e
  exact Ok.ite (fun _=>Ok.ret (.inr ⟨no,rfl⟩)) fun hc=>absurd (by simpa using hc) (no _ (hs _ _ _))
end Go.Ab
set_option maxRecDepth 20000
namespace Go.Ab
open Go.Proofs
def m43:GSummary:=⟨7,1,false,2,5,⟨2,100,3,300⟩,true,true⟩
theorem m43_ok:SV m43:=by
 have h:∀n:Int,-9223372036854775808≤n→n≤9223372036854775807→in64 n=true:=fun n a b=>in64_iff.2 ⟨a,b⟩
 exact ⟨by decide,by decide,h _ (by decide) (by decide),h _ (by decide) (by decide),h _ (by decide) (by decide),h _ (by decide) (by decide),h _ (by decide) (by decide),h _ (by decide) (by decide),h _ (by decide) (by decide)⟩
abbrev t43:Str:=[108,101,97,107,32,55,32,115,112,111,116,115,32,49,32,105,110,115,105,100,101,32,114,101,97,100,101,114,115,32,50,32,115,105,110,99,101,32,53,32,108,101,118,101,108,32,50,32,119,111,114,116,104,32,49,48,48,32,97,117,100,105,101,110,99,101,32,51,32,115,99,111,114,101,32,51,48,48,32,114,111,116,97,116,101,100,32,100,101,97,100]
theorem dig1 {u:Nat} (h:u<10):Lib.decDigits u=[UInt8.ofNat (48+u)]:=by rw [Lib.decDigits,dif_pos h]
theorem dig3 {a b c:Nat} (h0:1≤a) (ha:a<10) (hb:b<10) (hc:c<10):Lib.decDigits (100*a+10*b+c)=[UInt8.ofNat (48+a),UInt8.ofNat (48+b),UInt8.ofNat (48+c)]:=by
 rw [Lib.decDigits,dif_neg (by omega),show (100*a+10*b+c) / 10=10*a+b by omega,show (100*a+10*b+c) % 10=c by omega,Lib.decDigits,dif_neg (by omega),show (10*a+b) / 10=a by omega,show (10*a+b) % 10=b by omega,dig1 ha]
 rfl
theorem ltx43:ltx m43=t43:=by
 have i:∀u:Nat,Lib.itoa (u:Int)=Lib.decDigits u:=fun u=>Lib.itoa_nonneg u
 have e:wds m43=[[108,101,97,107],[55],[115,112,111,116,115],[49],[105,110,115,105,100,101],
  [114,101,97,100,101,114,115],[50],[115,105,110,99,101],[53],[108,101,118,101,108],[50],[119,111,114,116,104],[49,48,48],
  [97,117,100,105,101,110,99,101],[51],[115,99,111,114,101],[51,48,48],[114,111,116,97,116,101,100],[100,101,97,100]]:=by
  show [[108,101,97,107],Lib.decDigits 7,[115,112,111,116,115],Lib.itoa ((1:Nat):Int),[105,110,115,105,100,101],
   [114,101,97,100,101,114,115],Lib.itoa ((2:Nat):Int),[115,105,110,99,101],Lib.itoa ((5:Nat):Int),[108,101,118,101,108],Lib.itoa ((2:Nat):Int),[119,111,114,116,104],Lib.itoa ((100*1+10*0+0:Nat):Int),
   [97,117,100,105,101,110,99,101],Lib.itoa ((3:Nat):Int),[115,99,111,114,101],Lib.itoa ((100*3+10*0+0:Nat):Int),[114,111,116,97,116,101,100],[100,101,97,100]]=_
  rw [i,i,i,i,i,i,dig1 (u:=7) (by decide),dig1 (u:=1) (by decide),dig1 (u:=2) (by decide),dig1 (u:=5) (by decide),dig1 (u:=3) (by decide),dig3 (a:=1) (b:=0) (c:=0) (by decide) (by decide) (by decide) (by decide),dig3 (a:=3) (b:=0) (c:=0) (by decide) (by decide) (by decide) (by decide)]
  rfl
 unfold ltx
 rw [e];rfl
theorem closed_eq (m:GSummary):F_d m=some (m.Rotated&&m.Dead):=rfl
theorem awake43:F_8=some true:=by
 obtain ⟨r,hr,hres⟩:=prog43 (t:=t43) (by decide)
 have e:=res_inj hres (.inl ⟨m43,m43_ok,ltx43,rfl⟩)
 subst e
 refine Ok.eq ?_
 unfold F_8
 refine Ok.bind (Ok.of hr rfl) fun y e=>?_
 subst e
 refine Ok.jn (P:=fun b=>b=true) ?_ fun b e=>?_
 ·refine Ok.ite (fun _=>?_) fun h=>by simp at h
  refine Ok.bind (Ok.of (text_p m43_ok) rfl) fun y e=>?_
  subst e
  rw [ltx43]
  exact Ok.ret (decide_eq_true rfl)
 ·subst e
  refine Ok.grp (Ok.grp ?_)
  refine Ok.jn (P:=fun b=>b=true) ?_ fun b e=>by subst e;exact Ok.ret rfl
  exact Ok.ite (fun _=>Ok.bind (Ok.of (closed_eq m43) rfl) fun y e=>by subst e;exact Ok.ret rfl) fun h=>by simp [m43] at h
theorem sv_fact {m:GSummary} (h:(GSummary.v m).fact):SV m:=by
 obtain ⟨a,b,c,d,e,f,g,i,j,k,l,_⟩:=h
 have r:∀{n:Int},(V.int .i64 n).fact→in64 n=true:=fun h=>in64_iff.2 (fact_int h)
 exact ⟨a.1,a.2,r b,r d,r e,r f,r g,r i,r j⟩
theorem one43 {s:Str} (hs:s.length≤1000) (k:Int):F_a k s ()=some (.nx ()):=by
 obtain ⟨r,h1,h2⟩:=prog43 hs
 obtain ⟨r',h3,h4⟩:=ref43 hs
 have e:=res_inj h2 h4
 subst e
 refine Ok.eq ?_
 unfold F_a
 rw [h1,h3,Option.bind_some,Option.bind_some]
 exact Ok.grp (Ok.ite (fun f=>by simp at f) fun _=>Ok.ret rfl)
theorem parses43 {raw:GSummary} {text:Str} {at_:Int} {by_:UInt8} (hr:(GSummary.v raw).fact):F_f raw text at_ by_=some true:=by
 have hv:=sv_fact hr
 have hl:=ltx_len hv
 have h1:1≤(ltx raw).length:=by
  show 1≤(Lib.join (_::_) _).length
  rw [Lib.join_cons];simp
 refine Ok.eq ?_
 unfold F_f
 refine Ok.ite (fun _=>by rw [awake43];exact Ok.ret rfl) fun hc=>?_
 have hc:=of_decide_eq_false hc
 refine Ok.bind (Ok.of (text_r hv) rfl) fun y e=>?_
 subst e
 generalize ltx raw=s at hl h1
 refine Ok.chk (by rw [←nzb_and];omega) ?_
 have b1:=Int.tmod_lt_of_pos at_ (show (0:Int)<s.length by omega)
 have b0:-(s.length:Int)<Int.tmod at_ (s.length:Int):=by
  rcases Int.le_total 0 at_ with h|h
  ·have:=Int.tmod_nonneg (s.length:Int) h;omega
  ·have h2:=Int.tmod_lt_of_pos (-at_) (show (0:Int)<s.length by omega)
   rw [Int.neg_tmod] at h2;omega
 refine Ok.jn (P:=fun j:Int=>0≤j∧j<s.length) ?_ fun j hj=>?_
 ·refine Ok.ite (fun h=>?_) fun h=>?_
  ·have h:=of_decide_eq_true h
   exact Ok.chk (in64_iff.2 ⟨by omega,by omega⟩) (Ok.ret ⟨by omega,by omega⟩)
  ·have h:=of_decide_eq_false h
   exact Ok.ret ⟨by omega,b1⟩
 ·obtain ⟨j0,j1⟩:=hj
  have ib:inb j s.length=true:=inb_iff.2 ⟨j0,j1⟩
  refine Ok.chk ib (Ok.chk (in64_iff.2 ⟨by omega,by omega⟩) (Ok.chk (divs_iff.2 ⟨by omega,by decide⟩) (Ok.chk (inb_iff.2 ⟨by omega,by simp;omega⟩) (Ok.chk ib (Ok.chk (strl_iff.2 (by simp;omega)) (Ok.chk (inc_iff.2 ⟨by omega,by omega,by omega⟩) ?_))))))
  simp only [forL]
  rw [one43 (by omega)];simp only [Option.bind_some,Fl.elim]
  rw [one43 (by omega)];simp only [Option.bind_some,Fl.elim]
  rw [one43 (by simp;omega)];simp only [Option.bind_some,Fl.elim]
  rw [one43 (by simp;omega)];simp only [Option.bind_some,Fl.elim]
  rw [one43 (by simp;omega)];simp only [Option.bind_some,Fl.elim]
  rw [one43 (by simp;omega)];simp only [Option.bind_some,Fl.elim]
  rw [awake43];exact Ok.ret rfl
theorem acall_fact2 {P:Program} {f:FuncId} {ys:List V} {H:Heap} {Q:V→Heap→Prop} (hc:callable P f=true) (h:(∀y∈ys,y.fact)→ACall P f ys H Q):ACall P f ys H Q :=
 ⟨hc,fun g w vals hH hs hr=>(h fun y hy=>by
  obtain ⟨i,hi⟩:=List.getElem?_of_mem hy
  exact (hr i y hi).fact).2 g w vals hH hs hr⟩
theorem call43p {raw:GSummary} {text:Str} {at_:Int} {by_:UInt8}:ACall Tryd.prog 3 [GSummary.v raw,.str text,.int .i64 at_,byteV by_] [] (fun r H=>r=.bool true∧H=[]) :=
 acall_fact2 (by kernel_rfl) fun h=>Wq_law43_IncidentParses.c.w (parses43 (h _ (by simp)))
end Go.Ab
