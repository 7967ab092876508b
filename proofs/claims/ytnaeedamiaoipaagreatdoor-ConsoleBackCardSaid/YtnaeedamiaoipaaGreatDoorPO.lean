/- Numbers and words of a line (for chapter 43). -/
import Derived.Test.YtnaeedamiaoipaaGreatDoorAbStr
import Derived.Test.YtnaeedamiaoipaaGreatDoorAbHo
import Derived.Test.YtnaeedamiaoipaaGreatDoorAbSpl
import Derived.Lib.Join
import Derived.Test.YtnaeedamiaoipaaGreatDoorLA
import Derived.Test.YtnaeedamiaoipaaGreatDoorLC
import Derived.Test.YtnaeedamiaoipaaGreatDoorMI
set_option linter.all false
set_option linter.all false
namespace Go.Ab
open Go.Proofs
theorem dig_bounds (u:Nat):∀c∈Lib.decDigits u,48≤c.toNat∧c.toNat≤57:=by
 induction u using Nat.strongRecOn with
 | _ u ih =>
  intro c hc
  rw [Lib.decDigits] at hc
  split at hc
  ·rename_i h
   simp at hc;subst hc
   simp;omega
  ·rcases List.mem_append.1 hc with hc|hc
   ·exact ih (u / 10) (by omega) c hc
   ·simp at hc;subst hc
    simp;omega
theorem parse_dig (u:Nat) (h:u≤18446744073709551615) (l:Str):Lib.parseUint10 0 (Lib.decDigits u++l)=Lib.parseUint10 u l:=by
 induction u using Nat.strongRecOn generalizing l with
 | _ u ih =>
  rw [Lib.decDigits]
  split
  ·rename_i hu
   have e:(UInt8.ofNat (48+u)).toNat=48+u:=by simp;omega
   simp only [List.cons_append,List.nil_append,Lib.parseUint10,e]
   rw [if_pos (by omega),if_neg (by omega),if_neg (by omega)]
   congr 1;omega
  ·rename_i hu
   rw [List.append_assoc,ih (u / 10) (by omega) (by omega)]
   have e:(UInt8.ofNat (48+u % 10)).toNat=48+u % 10:=by simp;omega
   simp only [List.cons_append,List.nil_append,Lib.parseUint10,e]
   rw [if_pos (by omega),if_neg (by omega),if_neg (by omega)]
   congr 1;omega
theorem dec_ne (u:Nat):Lib.decDigits u≠[]:=by rw [Lib.decDigits];split<;>simp
theorem mag_dig (u:Nat) (h:u≤18446744073709551615):Lib.parseMag (Lib.decDigits u)=.ok u:=by
 have hp:=parse_dig u h []
 rw [List.append_nil] at hp
 unfold Lib.parseMag
 rw [if_neg (dec_ne u),hp];rfl
theorem atoiE_all {n:Int} (h0:-9223372036854775808≤n) (h1:n≤9223372036854775807):atoiE (Lib.itoa n)=some (n,true):=by
 have key:Lib.atoiAll (Lib.itoa n)=.ok n∧(Lib.itoa n).length≤21:=by
  refine ⟨?_,Lib.itoa_length_le n h0 h1⟩
  by_cases c:0≤n
  ·obtain ⟨u,rfl⟩:=Int.eq_ofNat_of_zero_le c
   rw [Lib.itoa_nonneg]
   have hb:=dig_bounds u
   cases hd:Lib.decDigits u with
   | nil=>exact absurd hd (dec_ne u)
   | cons c r =>
    have h1:=hb c (by rw [hd];simp)
    rw [Lib.atoiAll_plain c r (by omega) (by omega),←hd,mag_dig u (by omega)]
    simp only [Lib.signless]
    rw [if_neg (by omega)]
  ·obtain ⟨u,hu⟩:∃u:Nat,n=-(u:Int):=⟨(-n).toNat,by omega⟩
   subst hu
   rw [Lib.itoa_neg u (by omega),Lib.atoiAll_minus,mag_dig u (by omega)]
   simp only [Lib.signed]
   rw [if_neg (by omega)]
 refine Ok.eq (Ok.chk (decide_eq_true (by omega)) (Ok.ret ?_))
 unfold atoiV atoiB
 rw [key.1]
theorem joinTail_cons (sep a:Str) (l:List Str):Lib.joinTail sep (a::l)=sep++a++Lib.joinTail sep l:=by simp [Lib.joinTail]
theorem spl_join {b:UInt8}:∀(l:List Str) (a:Str),(∀w∈a::l,∀c∈w,c≠b)→spl b (Lib.join (a::l) [b])=a::l
 | [],a,h=>by
  rw [Lib.join_cons]
  simpa [Lib.joinTail] using spl_none (h a (by simp))
 | x::l,a,h=>by
  have ih:=spl_join (b:=b) l x fun w hw=>h w (List.mem_cons_of_mem _ hw)
  rw [Lib.join_cons] at ih
  rw [Lib.join_cons,joinTail_cons]
  have e:a++([b]++x++Lib.joinTail [b] l)=a++b::(x++Lib.joinTail [b] l):=by simp
  rw [e,spl_app _ (h a (by simp)),ih]
end Go.Ab
set_option maxRecDepth 20000
namespace Go.Ab
open Go.Proofs
deriving instance DecidableEq for GCommand
inductive Fd
 | nm|ot|tm
 | fa (m:Int)|fb (m:Int)
def Fd.g:Fd→Gfield
 | .nm=>⟨some 142,none,0⟩
 | .ot=>⟨some 143,none,0⟩
 | .tm=>⟨none,some 141,1000000⟩
 | .fa m=>⟨none,some 144,m⟩
 | .fb m=>⟨none,some 145,m⟩
def Fd.get (c:GCommand):Fd→Str
 | .nm=>c.Name
 | .ot=>c.Other
 | .tm=>Lib.itoa c.Time
 | .fa _=>Lib.itoa c.A
 | .fb _=>Lib.itoa c.B
def Fd.zero (c:GCommand):Fd→GCommand
 | .nm=>⟨c.Kind,[],c.Other,c.Time,c.A,c.B⟩
 | .ot=>⟨c.Kind,c.Name,[],c.Time,c.A,c.B⟩
 | .tm=>⟨c.Kind,c.Name,c.Other,0,c.A,c.B⟩
 | .fa _=>⟨c.Kind,c.Name,c.Other,c.Time,0,c.B⟩
 | .fb _=>⟨c.Kind,c.Name,c.Other,c.Time,c.A,0⟩
def Fd.cp (s c:GCommand):Fd→GCommand
 | .nm=>⟨c.Kind,s.Name,c.Other,c.Time,c.A,c.B⟩
 | .ot=>⟨c.Kind,c.Name,s.Other,c.Time,c.A,c.B⟩
 | .tm=>⟨c.Kind,c.Name,c.Other,s.Time,c.A,c.B⟩
 | .fa _=>⟨c.Kind,c.Name,c.Other,c.Time,s.A,c.B⟩
 | .fb _=>⟨c.Kind,c.Name,c.Other,c.Time,c.A,s.B⟩
def rgb (x m:Int):Bool:=decide (0≤x)&&decide (x<m)
theorem rgb_iff {x m:Int}:(rgb x m=true)=(0≤x∧x<m):=by simp [rgb]
def Fd.ok (c:GCommand):Fd→Bool
 | .nm=>namedB c.Name 12
 | .ot=>namedB c.Other 12
 | .tm=>rgb c.Time 1000000
 | .fa m=>rgb c.A m
 | .fb m=>rgb c.B m
def wordsK:List (Str×List Fd) :=
 [([112,101,114,115,111,110],[.nm]),([103,114,111,117,112],[.nm]),
  ([106,111,105,110],[.tm,.nm,.ot]),([108,101,97,118,101],[.tm,.nm,.ot]),
  ([97,108,108,111,119],[.tm,.nm,.fa 16]),([102,111,114,98,105,100],[.tm,.nm,.fa 16]),
  ([111,112,101,110],[.tm,.fa 16,.fb 1000000]),([112,117,116],[.tm,.fa 64,.fb 16]),
  ([99,111,112,121],[.tm,.fa 16,.fb 16]),([119,104,111],[.tm,.fa 16]),([115,105,110,99,101],[.fa 64,.nm])]
def formsL:List Gform:=wordsK.map fun k=>⟨k.1,k.2.map Fd.g⟩
theorem forms_eq:F_6=some formsL:=rfl
def allOk:Bool→GCommand→List Fd→Bool
 | b,_,[]=>b
 | b,c,f::r=>allOk (f.ok c&&b) (f.zero c) r
theorem right_eq (f:Fd) (c:GCommand):F_1a f.g c=some (f.ok c,f.zero c):=by
 cases f<;>simp [F_1a,Fd.g,Fd.ok,rgb,Fd.zero,F_8,F_7,F_b,F_a,F_9,namedF,jn]<;>(first|(cases decide (0≤c.Time)<;>rfl)|(cases decide (0≤c.A)<;>rfl)|(cases decide (0≤c.B)<;>rfl))
theorem valid_loop:∀(fs:List Fd) (k:Int) (b:Bool) (c:GCommand),foldL F_r (fs.map Fd.g) k (b,c)=some (allOk b c fs,fs.foldl Fd.zero c)
 | [],_,_,_=>rfl
 | f::r,k,b,c=>by
  simp only [List.map_cons,foldL,F_r,right_eq,Option.bind_some,grp]
  exact valid_loop r _ _ _
def kindOf (k:Int):Str×List Fd:=wordsK.getD (k - 1).toNat ([],[])
def zeroC (k:Int):GCommand:=⟨k,[],[],0,0,0⟩
def validB (c:GCommand):Bool:=decide (1≤c.Kind)&&(decide (c.Kind≤11)&&(allOk true c (kindOf c.Kind).2&&decide ((kindOf c.Kind).2.foldl Fd.zero c=zeroC c.Kind)))
theorem formsL_len:formsL.length=11:=rfl
theorem forms_get {k:Int} (h0:1≤k) (h1:k≤11):formsL.getD (k - 1).toNat default=⟨(kindOf k).1,(kindOf k).2.map Fd.g⟩:=by
 unfold kindOf formsL
 have h:(k - 1).toNat<wordsK.length:=by show (k - 1).toNat<11;omega
 rw [List.getD_eq_getElem?_getD,List.getElem?_map,List.getElem?_eq_getElem h,List.getD_eq_getElem?_getD,List.getElem?_eq_getElem h]
 rfl
theorem zero_kind:∀(fs:List Fd) (c:GCommand),(fs.foldl Fd.zero c).Kind=c.Kind
 | [],_=>rfl
 | f::r,c=>by rw [List.foldl_cons,zero_kind r];cases f<;>rfl
theorem Valid_eq (c:GCommand):F_s c=some (validB c):=by
 unfold F_s validB
 by_cases h0:1≤c.Kind
 ·by_cases h1:c.Kind≤11
  ·have e1:decide (c.Kind<1)=false:=decide_eq_false (by omega)
   have e2:decide (11<c.Kind)=false:=decide_eq_false (by omega)
   simp only [grp,e1,e2,Bool.or_self,cond_false,forms_eq,Option.bind_some,formsL_len]
   rw [chk_true (in64_iff.2 (by omega)),chk_true (inb_iff.2 (by omega)),forms_get h0 h1]
   simp only [valid_loop,Option.bind_some,jn]
   rw [decide_eq_true h0,decide_eq_true h1]
   cases hA:allOk true c (kindOf c.Kind).2 with
   | false=>simp
   | true =>
    have hk:=zero_kind (kindOf c.Kind).2 c
    generalize (kindOf c.Kind).2.foldl Fd.zero c=d at hk ⊢
    cases d
    simp only at hk
    subst hk
    simp [zeroC,GCommand.mk.injEq]
  ·have e2:decide (11<c.Kind)=true:=decide_eq_true (by omega)
   have e3:decide (c.Kind≤11)=false:=decide_eq_false h1
   simp [grp,e2,e3]
 ·have e1:decide (c.Kind<1)=true:=decide_eq_true (by omega)
  have e3:decide (1≤c.Kind)=false:=decide_eq_false h0
  simp [grp,e1,e3]
def numOK (c:GCommand):Prop:=in64 c.Time=true∧in64 c.A=true∧in64 c.B=true
theorem get_line (f:Fd) (c:GCommand) (h:numOK c) (k:Int) (x:List Str) (hx:x.length≤10):F_i c k f.g x=some (x++[f.get c]):=by
 have hr:room (x.length+1) 16=true:=room_iff.2 (by omega)
 obtain ⟨h1,h2,h3⟩:=h
 have r1:∀z:Str,room (x.length+[z].length) 16=true:=fun z=>hr
 have i1:itoaI c.Time=some (Lib.itoa c.Time):=chk_true h1
 have i2:itoaI c.A=some (Lib.itoa c.A):=chk_true h2
 have i3:itoaI c.B=some (Lib.itoa c.B):=chk_true h3
 cases f<;>simp [F_i,Fd.g,Fd.get,F_8,F_7,F_b,F_a,F_9,i1,i2,i3,chk_true hr]
theorem line_loop (c:GCommand) (h:numOK c):∀(fs:List Fd) (k:Int) (x:List Str),x.length+fs.length≤10→foldL (F_i c) (fs.map Fd.g) k x=some (x++fs.map (Fd.get c))
 | [],_,x,_=>by simp [foldL]
 | f::r,k,x,hl=>by
  simp only [List.length_cons] at hl
  simp only [List.map_cons,foldL]
  rw [get_line f c h _ _ (by omega),Option.bind_some,line_loop c h r _ _ (by simp;omega)]
  simp
def wdC (c:GCommand):List Str:=(kindOf c.Kind).1::(kindOf c.Kind).2.map (Fd.get c)
def lnC (c:GCommand):Str:=Lib.join (wdC c) [32]++[10]
end Go.Ab
set_option maxRecDepth 20000
namespace Go.Ab
open Go.Proofs
structure VC (c:GCommand):Prop where
 k0:1≤c.Kind
 k1:c.Kind≤11
 ok:∀f∈(kindOf c.Kind).2,f.ok c=true
 cp:(kindOf c.Kind).2.foldl (Fd.cp c) (zeroC c.Kind)=c
 t:0≤c.Time∧c.Time<1000000
 a:0≤c.A∧c.A<1000000
 b:0≤c.B∧c.B<1000000
 n:c.Name.length≤12
 o:c.Other.length≤12
theorem named_iff {s:Str}:namedB s 12=true↔(∀x∈s,97≤x.toNat∧x.toNat≤122)∧1≤s.length∧s.length≤12:=by
 simp [namedB,letters]
 omega
theorem kinds {k:Int} (h0:1≤k) (h1:k≤11):k=1∨k=2∨k=3∨k=4∨k=5∨k=6∨k=7∨k=8∨k=9∨k=10∨k=11:=by omega
theorem valid_inv {c:GCommand} (h:validB c=true):VC c:=by
 unfold validB at h
 simp only [Bool.and_eq_true,decide_eq_true_eq] at h
 obtain ⟨h0,h1,h2,h3⟩:=h
 have hn:∀{s:Str},namedB s 12=true→s.length≤12:=fun h=>(named_iff.1 h).2.2
 obtain ⟨K,N,O,T,A,B⟩:=c
 simp only at h0 h1 h2 h3
 rcases kinds h0 h1 with h|h|h|h|h|h|h|h|h|h|h<;>subst h <;>
  simp [kindOf,wordsK,allOk,Fd.ok,Fd.zero,zeroC,List.getD_cons_succ] at h2 h3<;>(try simp only [rgb_iff] at h2) <;>
  refine ⟨h0,h1,?_,?_,?_,?_,?_,?_,?_⟩<;>simp [kindOf,wordsK,Fd.ok,rgb_iff,Fd.cp,zeroC,h2,h3,hn]<;>(try omega)<;>(try exact hn (by simp [h2]))
theorem VC.num {c:GCommand} (h:VC c):numOK c:=⟨in64_iff.2 (by have:=h.t;omega),in64_iff.2 (by have:=h.a;omega),in64_iff.2 (by have:=h.b;omega)⟩
end Go.Ab
set_option maxRecDepth 20000
namespace Go.Ab
open Go.Proofs
theorem kind_len (k:Int):(kindOf k).2.length≤3:=by
 by_cases h:1≤k∧k≤11
 ·rcases kinds h.1 h.2 with h|h|h|h|h|h|h|h|h|h|h<;>subst h<;>decide
 ·by_cases h2:(k - 1).toNat=0
  ·have:kindOf k=kindOf 1:=by unfold kindOf;rw [h2];rfl
   rw [this];decide
  ·have h3:wordsK.length≤(k - 1).toNat:=by show 11≤_;omega
   unfold kindOf
   rw [List.getD_eq_getElem?_getD,List.getElem?_eq_none h3]
   decide
theorem kind_word (k:Int):(kindOf k).1.length≤6∧∀x∈(kindOf k).1,x≠32∧x≠10:=by
 by_cases h:1≤k∧k≤11
 ·rcases kinds h.1 h.2 with h|h|h|h|h|h|h|h|h|h|h<;>subst h<;>decide
 ·by_cases h2:(k - 1).toNat=0
  ·have:kindOf k=kindOf 1:=by unfold kindOf;rw [h2];rfl
   rw [this];decide
  ·have h3:wordsK.length≤(k - 1).toNat:=by show 11≤_;omega
   unfold kindOf
   rw [List.getD_eq_getElem?_getD,List.getElem?_eq_none h3]
   decide
theorem itoa_pos {n:Int} (h:0≤n):∀x∈Lib.itoa n,48≤x.toNat∧x.toNat≤57:=by
 obtain ⟨u,rfl⟩:=Int.eq_ofNat_of_zero_le h
 rw [Lib.itoa_nonneg]
 exact dig_bounds u
theorem get_ok {c:GCommand} {f:Fd} (h:f.ok c=true) (hn:numOK c):(f.get c).length≤21∧∀x∈f.get c,x≠32∧x≠10:=by
 have hl:∀{n:Int},in64 n=true→(Lib.itoa n).length≤21:=fun h=>Lib.itoa_length_le _ (in64_iff.1 h).1 (in64_iff.1 h).2
 have hx:∀{x:UInt8},48≤x.toNat→x≠32∧x≠10:=fun h=>⟨fun e=>by subst e;simp at h,fun e=>by subst e;simp at h⟩
 cases f with
 | nm=>exact ⟨by have:=(named_iff.1 h).2.2;show c.Name.length≤21;omega,fun x hm=>hx (by have:=(named_iff.1 h).1 x hm;omega)⟩
 | ot=>exact ⟨by have:=(named_iff.1 h).2.2;show c.Other.length≤21;omega,fun x hm=>hx (by have:=(named_iff.1 h).1 x hm;omega)⟩
 | tm=>exact ⟨hl hn.1,fun x hm=>hx (itoa_pos ((rgb_iff▸h:_∧_).1) x hm).1⟩
 | fa m=>exact ⟨hl hn.2.1,fun x hm=>hx (itoa_pos ((rgb_iff▸h:_∧_).1) x hm).1⟩
 | fb m=>exact ⟨hl hn.2.2,fun x hm=>hx (itoa_pos ((rgb_iff▸h:_∧_).1) x hm).1⟩
theorem wdC_ok {c:GCommand} (h:VC c):∀w∈wdC c,w.length≤21∧∀x∈w,x≠32∧x≠10:=by
 intro w hw
 rcases List.mem_cons.1 hw with rfl|hw
 ·exact ⟨by have:=(kind_word c.Kind).1;omega,(kind_word c.Kind).2⟩
 ·obtain ⟨f,hf,rfl⟩:=List.mem_map.1 hw
  exact get_ok (h.ok f hf) h.num
theorem jlen {n:Nat}:∀(l:List Str) (a:Str),(∀w∈a::l,w.length≤n)→(Lib.join (a::l) [32]).length≤(n+1)*(l.length+1)
 | [],a,h=>by
  have:=h a (by simp)
  rw [Lib.join_cons];simp [Lib.joinTail];omega
 | x::l,a,h=>by
  have ih:=jlen l x fun w hw=>h w (List.mem_cons_of_mem _ hw)
  have:=h a (by simp)
  rw [Lib.join_cons] at ih
  rw [Lib.join_cons,joinTail_cons,List.length_append,List.length_append,List.length_append,show (x::l).length+1=(l.length+1)+1 from rfl,Nat.mul_add (n+1) (l.length+1) 1]
  rw [List.length_append] at ih
  simp only [List.length_cons,List.length_nil]
  omega
theorem jmem {x:UInt8}:∀(l:List Str) (a:Str),x∈Lib.join (a::l) [32]→x=32∨∃w∈a::l,x∈w
 | [],a,h=>by
  rw [Lib.join_cons] at h
  simp [Lib.joinTail] at h
  exact .inr ⟨a,by simp,h⟩
 | y::l,a,h=>by
  rw [Lib.join_cons,joinTail_cons] at h
  simp only [List.mem_append,List.mem_cons,List.mem_nil_iff,or_false] at h
  rcases h with h|(h|h)|h
  ·exact .inr ⟨a,by simp,h⟩
  ·exact .inl h
  ·exact .inr ⟨y,by simp,h⟩
  ·rcases jmem l y (by rw [Lib.join_cons];exact List.mem_append_right _ h) with h|⟨w,hw,hx⟩
   ·exact .inl h
   ·exact .inr ⟨w,List.mem_cons_of_mem _ hw,hx⟩
def bdC (c:GCommand):Str:=Lib.join (wdC c) [32]
theorem lnC_eq (c:GCommand):lnC c=bdC c++[10]:=rfl
theorem bdC_len {c:GCommand} (h:VC c):(bdC c).length≤88:=by
 have:=jlen (n:=21) ((kindOf c.Kind).2.map (Fd.get c)) (kindOf c.Kind).1 fun w hw=>(wdC_ok h w hw).1
 have h3:=kind_len c.Kind
 rw [List.length_map] at this
 have:(21+1)*((kindOf c.Kind).2.length+1)≤22*4:=Nat.mul_le_mul_left 22 (by omega)
 show (Lib.join _ _).length≤88
 unfold wdC
 omega
theorem bdC_nl {c:GCommand} (h:VC c):∀x∈bdC c,x≠10:=by
 intro x hx
 rcases jmem _ _ hx with h2|⟨w,hw,h2⟩
 ·subst h2;decide
 ·exact ((wdC_ok h w hw).2 x h2).2
theorem Line_eq {c:GCommand} (h:VC c):F_t c=some (lnC c):=by
 have h3:=kind_len c.Kind
 have hk0:=h.k0
 have hk1:=h.k1
 have hl:=bdC_len h
 have ej:joinI (wdC c) [32]=some (bdC c):=by
  unfold joinI
  exact chk_true (by simp only [Bool.and_eq_true,decide_eq_true_eq];exact ⟨by simp [wdC];omega,by show (bdC c).length≤_;omega⟩)
 unfold F_t
 simp only [forms_eq,Option.bind_some,formsL_len]
 rw [chk_true (in64_iff.2 (by omega)),chk_true (inb_iff.2 (by omega)),forms_get hk0 hk1]
 simp only
 rw [line_loop c h.num _ _ _ (by simp;omega),Option.bind_some]
 show (joinI (wdC c) [32]).bind _=_
 rw [ej,Option.bind_some,chk_true (strl_iff.2 (by simp;omega))]
 rfl
end Go.Ab
set_option maxRecDepth 20000
namespace Go.Ab
open Go.Proofs
def trimL (s:Str):Str:=bif decide (s.drop (s.length - 1)=[10]) then s.take (s.length - 1) else s
theorem suffix_eq {s:Str} (h:s.length≤1000000000000):F_16 s [10]=some (decide (s.drop (s.length - 1)=[10])):=by
 unfold F_16
 cases s with
 | nil=>rfl
 | cons a r =>
  have e:decide ((([10]:Str).length:Int)≤((a::r).length:Int))=true:=decide_eq_true (by simp only [List.length_cons,List.length_nil];omega)
  rw [e,cond_true]
  rw [chk_true (in64_iff.2 (by simp only [List.length_cons,List.length_nil] at h ⊢;omega)),chk_true (inc_iff.2 (by simp only [List.length_cons,List.length_nil];omega))]
  have e2:(((a::r).length:Int) - (([10]:Str).length:Int)).toNat=(a::r).length - 1:=by simp only [List.length_cons,List.length_nil];omega
  rw [e2];rfl
theorem trim_eq {s:Str} (h:s.length≤1000000000000):F_17 s [10]=some (trimL s):=by
 unfold F_17 F_21 trimL
 rw [suffix_eq h]
 simp only [Option.bind_some]
 cases hd:decide (s.drop (s.length - 1)=[10]) with
 | false=>rfl
 | true =>
  have hs:1≤s.length:=by
   cases s with
   | nil=>simp at hd
   | cons a r=>simp
  simp only [cond_true]
  rw [chk_true (in64_iff.2 (by simp only [List.length_cons,List.length_nil];omega)),chk_true (inc_iff.2 (by simp only [List.length_cons,List.length_nil];omega))]
  have e2:((s.length:Int) - (([10]:Str).length:Int)).toNat=s.length - 1:=by simp only [List.length_cons,List.length_nil];omega
  rw [e2];rfl
theorem trim_ln {b:Str}:trimL (b++[10])=b:=by
 have e:(b++[10]:Str).length - 1=b.length:=by simp
 unfold trimL
 rw [e,List.drop_left,List.take_left]
 rfl
theorem trim_no {b:Str} (h:∀x∈b,x≠10):trimL b=b:=by
 unfold trimL
 rw [decide_eq_false,cond_false]
 intro e
 have:(10:UInt8)∈b.drop (b.length - 1):=by rw [e];simp
 exact h 10 (List.mem_of_mem_drop this) rfl
def idxW:List (Str×List Fd)→Int→Str→Option Int
 | [],_,_=>none
 | k::r,i,w=>bif decide (k.1=w) then some i else idxW r (i+1) w
theorem parse1_eq (f:Gform) (w:Str) (r:List Str):F_19 f (w::r)=some (decide (f.word_=w)):=by
 unfold F_19
 exact chk_true (inb_iff.2 (by simp only [List.length_cons];omega))
theorem index_loop (w:Str) (q:List Str):∀(ks:List (Str×List Fd)) (i:Int),
  forL (F_22 (w::q)) (ks.map fun k=>⟨k.1,k.2.map Fd.g⟩) i ()=some (match idxW ks i w with|some j=>.ex j|none=>.nx ())
 | [],_=>rfl
 | k::r,i=>by
  simp only [List.map_cons,forL,F_22,parse1_eq,Option.bind_some,idxW]
  cases decide (k.1=w) with
  | true=>rfl
  | false=>exact index_loop w q r (i+1)
theorem index_eq (w:Str) (q:List Str):F_q formsL (w::q)=some ((idxW wordsK 0 w).getD (-1)):=by
 unfold F_q formsL
 rw [index_loop]
 cases idxW wordsK 0 w<;>rfl
theorem idx_kind {k:Int} (h0:1≤k) (h1:k≤11):idxW wordsK 0 (kindOf k).1=some (k - 1):=by
 rcases kinds h0 h1 with h|h|h|h|h|h|h|h|h|h|h<;>subst h<;>rfl
theorem read_one (c d:GCommand) (f:Fd) (hn:numOK c) (ws:List Str) (k:Int) (h0:0≤k) (hk:k+1<ws.length) (hw:ws.getD (k+1).toNat default=f.get c):F_3 ws k f.g d=some (.nx (f.cp c d)):=by
 have hb:inb (k+1) ws.length=true:=inb_iff.2 (by omega)
 have i1:=atoiE_all (in64_iff.1 hn.1).1 (in64_iff.1 hn.1).2
 have i2:=atoiE_all (in64_iff.1 hn.2.1).1 (in64_iff.1 hn.2.1).2
 have i3:=atoiE_all (in64_iff.1 hn.2.2).1 (in64_iff.1 hn.2.2).2
 unfold F_3
 rw [hw]
 simp only [chk_true hb]
 cases f<;>simp [Fd.g,Fd.get,Fd.cp,F_8,F_7,F_b,F_a,F_9,i1,i2,i3]
theorem read_loop (c:GCommand) (hn:numOK c) (w:Str):∀(fs pre:List Fd) (d:GCommand) (k:Int),k=pre.length →
  forL (F_3 (w::(pre++fs).map (Fd.get c))) (fs.map Fd.g) k d=some (.nx (fs.foldl (Fd.cp c) d))
 | [],_,_,_,_=>rfl
 | f::r,pre,d,k,hk=>by
  subst hk
  have h1:F_3 (w::(pre++f::r).map (Fd.get c)) pre.length f.g d=some (.nx (f.cp c d)):=by
   refine read_one c d f hn _ _ (by omega) (by simp;omega) ?_
   have e:((pre.length:Int)+1).toNat=pre.length+1:=by omega
   rw [e,List.getD_cons_succ,List.getD_eq_getElem?_getD,List.getElem?_map]
   simp
  simp only [List.map_cons,forL]
  rw [h1]
  simp only [Option.bind_some,Fl.elim]
  have ih:=read_loop c hn w r (pre++[f]) (f.cp c d) ((pre.length:Int)+1) (by simp)
  simp only [List.append_assoc,List.cons_append,List.nil_append] at ih
  exact ih
theorem parse_any {c:GCommand} (h:VC c) (hv:validB c=true) {t:Str} (hl:t.length≤1000) (ht:trimL t=bdC c):F_j t=some (c,decide (lnC c=t)):=by
 have hk0:=h.k0
 have hk1:=h.k1
 have hws:spl 32 (bdC c)=wdC c:=spl_join _ _ fun w hw x hx=>((wdC_ok h w hw).2 x hx).1
 have es:splI (bdC c) [32]=some (wdC c):=by
  have:=bdC_len h
  unfold splI
  simp only [decide_eq_true (show (bdC c).length<4294967281 by omega),cond_true,hws]
 have h3:=kind_len c.Kind
 unfold F_j
 rw [trim_eq (by omega),ht]
 simp only [Option.bind_some]
 rw [es]
 simp only [Option.bind_some,forms_eq]
 have ei:F_q formsL (wdC c)=some (c.Kind - 1):=by
  unfold wdC
  rw [index_eq,idx_kind hk0 hk1];rfl
 rw [ei]
 simp only [Option.bind_some]
 rw [decide_eq_false (by omega),cond_false,formsL_len,chk_true (inb_iff.2 (by omega)),forms_get hk0 hk1]
 simp only [List.length_map]
 rw [chk_true (in64_iff.2 (by omega))]
 have e1:decide (((wdC c).length:Int)=1+((kindOf c.Kind).2.length:Int))=true:=decide_eq_true (by simp [wdC];omega)
 rw [e1,Bool.not_true,cond_false,chk_true (in64_iff.2 (by omega)),chk_true (inb_iff.2 (by omega))]
 have e2:c.Kind - 1+1=c.Kind:=by omega
 rw [e2]
 have hr:=read_loop c h.num (kindOf c.Kind).1 (kindOf c.Kind).2 [] (zeroC c.Kind) 0 rfl
 rw [List.nil_append,h.cp] at hr
 show (forL (F_3 (wdC c)) _ _ _).bind _=_
 unfold wdC
 unfold zeroC at hr
 rw [hr]
 simp only [Option.bind_some,Fl.elim,Valid_eq,hv,cond_true,Line_eq h]
end Go.Ab
set_option maxRecDepth 20000
namespace Go.Ab
open Go.Proofs
theorem linesL_app:∀(l r:Str),(∀c∈l,c≠10)→linesL (l++10::r)=(l++[10])::linesL r
 | [],r,_=>rfl
 | c::l,r,h=>by
  have hc:(c==10)=false:=by simpa using h c (by simp)
  have ih:=linesL_app l r fun c hc=>h c (by simp [hc])
  simp only [List.cons_append,linesL,hc,cond_false]
  rw [ih]
theorem linesL_last:∀(l:Str),l≠[]→(∀c∈l,c≠10)→linesL l=[l]
 | [],h,_=>absurd rfl h
 | [c],_,h=>by
  have hc:(c==10)=false:=by simpa using h c (by simp)
  simp [linesL,hc]
 | c::d::l,_,h=>by
  have hc:(c==10)=false:=by simpa using h c (by simp)
  have ih:=linesL_last (d::l) (by simp) fun c hc=>h c (List.mem_cons_of_mem _ hc)
  rw [linesL,hc,cond_false,ih]
structure Sc (x:List GCommand):Prop where
 v:∀c∈x,validB c=true
 n:x.length≤60
theorem Sc.vc {x:List GCommand} (h:Sc x):∀c∈x,VC c:=fun c hc=>valid_inv (h.v c hc)
def txC (x:List GCommand):Str:=x.flatMap lnC
theorem lines_tx (t:Str):∀(x:List GCommand),(∀c∈x,VC c)→linesL (txC x++t)=x.map lnC++linesL t
 | [],_=>rfl
 | c::r,h=>by
  have ih:=lines_tx t r fun c hc=>h c (List.mem_cons_of_mem _ hc)
  have e:txC (c::r)++t=bdC c++10::(txC r++t):=by simp [txC,lnC_eq]
  rw [e,linesL_app _ _ (bdC_nl (h c (by simp))),ih]
  rfl
theorem tx_len:∀(x:List GCommand),(∀c∈x,VC c)→(txC x).length≤89*x.length
 | [],_=>by simp [txC]
 | c::r,h=>by
  have ih:=tx_len r fun c hc=>h c (List.mem_cons_of_mem _ hc)
  have h1:=bdC_len (h c (by simp))
  have e:txC (c::r)=bdC c++[10]++txC r:=by simp [txC,lnC_eq]
  rw [e]
  simp only [List.length_append,List.length_cons,List.length_nil]
  omega
theorem collect_loop:∀(xs acc:List Str) (k:Int),acc.length+xs.length≤1000000000000→forL F_3m xs k acc=some (.nx (acc++xs))
 | [],acc,k,_=>by simp [forL]
 | x::r,acc,k,h=>by
  simp only [List.length_cons] at h
  simp only [forL,F_3m]
  rw [chk_true (room_iff.2 (by simp only [List.length_cons,List.length_nil];omega))]
  simp only [Option.bind_some,Fl.elim]
  rw [collect_loop r _ _ (by simp;omega)]
  simp
theorem collect_eq {s:Str} (h:(linesL s).length≤1000000000000):F_15 s=some (linesL s):=by
 unfold F_15 F_20
 rw [collect_loop _ _ _ (by simp;omega)]
 rfl
theorem parse_ln {c:GCommand} (hv:validB c=true):F_j (lnC c)=some (c,true):=by
 have h:=valid_inv hv
 have hl:=bdC_len h
 rw [parse_any h hv (t:=lnC c) (by rw [lnC_eq];simp;omega) (by rw [lnC_eq];exact trim_ln)]
 simp
theorem parse_bd {c:GCommand} (hv:validB c=true):F_j (bdC c)=some (c,false):=by
 have h:=valid_inv hv
 have hl:=bdC_len h
 rw [parse_any h hv (t:=bdC c) (by omega) (trim_no (bdC_nl h))]
 have:decide (lnC c=bdC c)=false:=decide_eq_false fun e=>by
  have:=congrArg List.length e
  rw [lnC_eq] at this
  simp at this
 rw [this]
theorem parse_loop (t:List Str):∀(x:List GCommand) (k:Int) (acc:List GCommand),(∀c∈x,validB c=true)→acc.length+x.length≤100 →
  forL F_c (x.map lnC++t) k acc=forL F_c t (k+x.length) (acc++x)
 | [],k,acc,_,_=>by simp
 | c::r,k,acc,h,hl=>by
  simp only [List.length_cons] at hl
  simp only [List.map_cons,List.cons_append,forL,F_c,parse_ln (h c (by simp)),Option.bind_some,Bool.not_true,cond_false]
  rw [chk_true (room_iff.2 (by simp only [List.length_cons,List.length_nil];omega))]
  simp only [Option.bind_some,Fl.elim]
  rw [parse_loop t r (k+1) (acc++[c]) (fun c hc=>h c (List.mem_cons_of_mem _ hc)) (by simp;omega)]
  have e:k+1+(r.length:Int)=k+((c::r).length:Int):=by simp only [List.length_cons];omega
  rw [e]
  simp
theorem Parse_eq {x:List GCommand} (h:Sc x):F_2 (txC x)=some (x,0,0):=by
 have hn:=h.n
 have e:=lines_tx [] x h.vc
 rw [List.append_nil] at e
 have e2:linesL (txC x)=x.map lnC++[]:=e
 unfold F_2
 rw [show linF (txC x)=some () from rfl,Option.bind_some,collect_eq (by rw [e2];simp;omega),Option.bind_some,e2]
 rw [decide_eq_false (by simp;omega),cond_false,parse_loop [] x 0 [] h.v (by simp;omega)]
 rfl
theorem Parse_cut {i:List GCommand} {c:GCommand} (h:Sc (i++[c])):F_2 (txC i++bdC c)=some ([],(i.length:Int),45):=by
 have hn:=h.n
 simp only [List.length_append,List.length_cons,List.length_nil] at hn
 have hv:validB c=true:=h.v c (by simp)
 have hc:=valid_inv hv
 have hb:bdC c≠[]:=by
  intro e
  have:=kind_word c.Kind
  have h2:bdC c=(kindOf c.Kind).1++Lib.joinTail [32] ((kindOf c.Kind).2.map (Fd.get c)):=Lib.join_cons _ _ _
  rw [h2] at e
  have e1:=(List.append_eq_nil_iff.1 e).1
  rcases kinds hc.k0 hc.k1 with h|h|h|h|h|h|h|h|h|h|h<;>rw [h] at e1<;>cases e1
 have e2:linesL (txC i++bdC c)=i.map lnC++[bdC c]:=by
  rw [lines_tx _ i fun d hd=>h.vc d (by simp [hd]),linesL_last _ hb (bdC_nl hc)]
 unfold F_2
 rw [show linF (txC i++bdC c)=some () from rfl,Option.bind_some,collect_eq (by rw [e2];simp;omega),Option.bind_some,e2]
 rw [decide_eq_false (by simp;omega),cond_false,parse_loop [bdC c] i 0 [] (fun d hd=>h.v d (by simp [hd])) (by simp;omega)]
 simp only [forL,F_c,parse_bd hv,Option.bind_some,Bool.not_false,cond_true,Fl.elim,Int.zero_add]
theorem check_loop:∀(x:List GCommand) (k:Int),(∀c∈x,validB c=true)→forL F_24 x k ()=some (.nx ())
 | [],_,_=>rfl
 | c::r,k,h=>by
  simp only [forL,F_24,F_23,Valid_eq,h c (by simp),Option.bind_some,Bool.not_true,cond_false,Fl.elim]
  exact check_loop r (k+1) fun c hc=>h c (List.mem_cons_of_mem _ hc)
theorem check_eq {x:List GCommand} (h:Sc x):F_k x=some 0:=by
 have hn:=h.n
 unfold F_k F_26 F_25
 rw [decide_eq_false (by omega),cond_false,check_loop x 0 h.v]
 rfl
theorem format_loop:∀(x:List GCommand) (k:Int) (acc:Str),(∀c∈x,VC c)→acc.length+89*x.length≤1000000→foldL F_u x k acc=some (acc++txC x)
 | [],_,acc,_,_=>by simp [foldL,txC]
 | c::r,k,acc,h,hl=>by
  simp only [List.length_cons] at hl
  have h1:=bdC_len (h c (by simp))
  have hb:bws acc (lnC c)=some (acc++lnC c):=by
   unfold bws
   exact chk_true (room_iff.2 (by rw [lnC_eq];simp;omega))
  simp only [foldL,F_u,Line_eq (h c (by simp)),Option.bind_some,hb]
  rw [format_loop r _ _ (fun c hc=>h c (List.mem_cons_of_mem _ hc)) (by rw [lnC_eq];simp;omega)]
  simp [txC]
theorem Format_eq {x:List GCommand} (h:Sc x):F_1b x=some (txC x,0):=by
 have hn:=h.n
 unfold F_1b
 rw [check_eq h,Option.bind_some]
 simp only [decide_true,Bool.not_true,cond_false]
 rw [format_loop x 0 [] h.vc (by simp;omega)]
 simp [bstr]
theorem same_loop (b:List GCommand):∀(xs pre:List GCommand) (k:Int),b=pre++xs→k=pre.length→forL (F_2o b) xs k ()=some (.nx ())
 | [],_,_,_,_=>rfl
 | x::r,pre,k,hb,hk=>by
  subst hk
  have e:b.getD ((pre.length:Int)).toNat default=x:=by subst hb;simp [List.getD_eq_getElem?_getD]
  have hi:inb (pre.length:Int) b.length=true:=inb_iff.2 (by subst hb;simp;omega)
  simp only [forL,F_2o]
  rw [chk_true hi,e]
  simp only [decide_true,Bool.and_self,Bool.not_true,cond_false,Option.bind_some,Fl.elim]
  exact same_loop b r (pre++[x]) _ (by simp [hb]) (by simp)
theorem Same_eq (x:List GCommand):F_1u x x=some true:=by
 unfold F_1u
 rw [decide_eq_true rfl,Bool.not_true,cond_false,same_loop x x [] 0 rfl rfl]
 rfl
end Go.Ab
set_option maxRecDepth 20000
namespace Go.Ab
open Go.Proofs
def TO (t:GTape):Prop:=0≤t.at_∧(t.L.length:Int)≤9223372036854775807
theorem in64_s {n:Int} (h0:-1000000000000≤n) (h:n≤1000000000000):in64 n=true:=in64_iff.2 ⟨by omega,by omega⟩
theorem nx_ok {t:GTape} {n:Int} (h:TO t) (hn:0<n):Ok (F_0 t n) fun y=>0≤y.1∧y.1<n∧TO y.2:=by
 unfold F_0
 refine Ok.ite (fun c=>Ok.ret ⟨Int.le_refl 0,hn,h⟩) fun c=>?_
 have c':t.at_<t.L.length:=by simpa using c
 have h1:=h.1;have h2:=h.2
 refine Ok.chk (inb_iff.2 ⟨h.1,c'⟩) (Ok.chk (in64_iff.2 ⟨by omega,by omega⟩) (Ok.chk (divs_iff.2 ⟨Int.emod_nonneg _ (by decide),hn⟩) (Ok.ret ⟨Int.emod_nonneg _ (by omega),Int.emod_lt_of_pos _ hn,?_,h2⟩)))
 show 0≤t.at_+1
 omega
theorem btw_ok {t:GTape} {a b:Int} (h:TO t) (h1:-100000≤a) (h2:a≤b) (h3:b≤100000):Ok (F_1r t a b) fun y=>a≤y.1∧y.1≤b∧TO y.2:=by
 unfold F_1r
 refine Ok.chk (in64_s (by omega) (by omega)) (Ok.chk (in64_s (by omega) (by omega)) (Ok.bind (nx_ok h (by omega)) fun y hy=>Ok.chk (in64_s (by omega) (by omega)) (Ok.ret ⟨?_,?_,hy.2.2⟩)))
 ·show a≤a+y.1;omega
 ·show a+y.1≤b;omega
structure MC0 (ns:List Str) (c:GCommand):Prop where
 k:1≤c.Kind∧c.Kind≤11
 w:c.Kind=1∨c.Kind=2→c.Name∈ns∧c.Other=[]∧c.Time=0∧c.A=0∧c.B=0
 j:c.Kind=3∨c.Kind=4→c.Name∈ns∧c.Other∈ns∧c.A=0∧c.B=0
 g:c.Kind=5∨c.Kind=6→c.Name∈ns∧c.Other=[]∧c.B=0
 o:c.Kind=7→c.Name=[]∧c.Other=[]
 p:c.Kind=8∨c.Kind=9→c.Name=[]∧c.Other=[]∧c.B<3
 q:c.Kind=10→c.Name=[]∧c.Other=[]∧c.B=0
 s:c.Kind=11→c.Name∈ns∧c.Other=[]∧c.Time=0∧c.B=0
 t:0≤c.Time∧c.Time<100
 a:0≤c.A∧c.A<3
 b:0≤c.B∧c.B<200
theorem mc_5y {ns:List Str} (hn:∀n∈ns,namedB n 12=true) {c:GCommand} (h:MC0 ns c):validB c=true:=by
 obtain ⟨⟨k0,k1⟩,w,j,g,o,p,q,s,⟨t0,t1⟩,⟨a0,a1⟩,b0,b1⟩:=h
 obtain ⟨K,N,O,T,A,B⟩:=c
 simp only at *
 unfold validB
 simp only [Bool.and_eq_true,decide_eq_true_eq]
 refine ⟨k0,k1,?_⟩
 rcases kinds k0 k1 with h|h|h|h|h|h|h|h|h|h|h<;>subst h <;>
  simp at w j g o p q s <;>
  simp [kindOf,wordsK,allOk,Fd.ok,Fd.zero,zeroC,rgb_iff, *]<;>omega
theorem command_ok {t:GTape} {ns:List Str} (ht:TO t) (h1:1≤ns.length) (h2:ns.length≤100):Ok (F_1s t ns) fun y=>MC0 ns y.1∧TO y.2:=by
 have hm:∀{i:Int},0≤i→i<ns.length→ns.getD i.toNat default∈ns:=fun {i} h0 h1=>by
  have:i.toNat<ns.length:=by omega
  rw [List.getD_eq_getElem?_getD,List.getElem?_eq_getElem this]
  exact List.getElem_mem this
 unfold F_1s
 refine Ok.bind (nx_ok ht (by omega)) fun y2 e2=>Ok.chk (inb_iff.2 ⟨e2.1,e2.2.1⟩) (Ok.bind (nx_ok e2.2.2 (by omega)) fun y4 e4=>Ok.bind (btw_ok e4.2.2 (by omega) (by omega) (by omega)) fun y6 e6=>?_)
 have n2:=hm e2.1 e2.2.1
 obtain ⟨t0,t1,ht4⟩:=e4
 obtain ⟨k0,k1,ht6⟩:=e6
 refine Ok.jn (P:=fun j=>j=true↔y6.1=1∨y6.1=2) (Ok.ite (fun c=>Ok.ret (by simp at c;simp [c])) fun c=>Ok.ret (by simp at c;simp [c])) fun j7 e7=>Ok.ite (fun c=>?_) fun c=>?_
 ·have hk:=e7.1 c
  exact Ok.ret ⟨⟨⟨k0,k1⟩,fun _=>⟨n2,rfl,rfl,rfl,rfl⟩,fun h=>by simp only at h;omega,fun h=>by simp only at h;omega,fun h=>by simp only at h;omega,fun h=>by simp only at h;omega,fun h=>by simp only at h;omega,fun h=>by simp only at h;omega,by simp,by simp,by simp⟩,ht6⟩
 have hk1:¬(y6.1=1∨y6.1=2):=fun h=>by rw [e7.2 h] at c;cases c
 refine Ok.jn (P:=fun j=>j=true↔y6.1=3∨y6.1=4) (Ok.ite (fun c=>Ok.ret (by simp at c;simp [c])) fun c=>Ok.ret (by simp at c;simp [c])) fun j8 e8=>Ok.ite (fun c=>?_) fun c=>?_
 ·have hk:=e8.1 c
  refine Ok.bind (nx_ok ht6 (by omega)) fun y10 e10=>Ok.chk (inb_iff.2 ⟨e10.1,e10.2.1⟩) (Ok.ret ⟨⟨⟨k0,k1⟩,fun h=>by simp only at h;omega,fun _=>⟨n2,hm e10.1 e10.2.1,rfl,rfl⟩,fun h=>by simp only at h;omega,fun h=>by simp only at h;omega,fun h=>by simp only at h;omega,fun h=>by simp only at h;omega,fun h=>by simp only at h;omega,by simp only;omega,by simp,by simp⟩,e10.2.2⟩)
 have hk2:¬(y6.1=3∨y6.1=4):=fun h=>by rw [e8.2 h] at c;cases c
 refine Ok.jn (P:=fun j=>j=true↔y6.1=5∨y6.1=6) (Ok.ite (fun c=>Ok.ret (by simp at c;simp [c])) fun c=>Ok.ret (by simp at c;simp [c])) fun j11 e11=>Ok.ite (fun c=>?_) fun c=>?_
 ·have hk:=e11.1 c
  refine Ok.bind (nx_ok ht6 (by omega)) fun y13 e13=>Ok.ret ⟨⟨⟨k0,k1⟩,fun h=>by simp only at h;omega,fun h=>by simp only at h;omega,fun _=>⟨n2,rfl,rfl⟩,fun h=>by simp only at h;omega,fun h=>by simp only at h;omega,fun h=>by simp only at h;omega,fun h=>by simp only at h;omega,by simp only;omega,by simp only;omega,by simp⟩,e13.2.2⟩
 have hk3:¬(y6.1=5∨y6.1=6):=fun h=>by rw [e11.2 h] at c;cases c
 refine Ok.ite (fun c=>?_) fun c=>?_
 ·have hk:y6.1=7:=by simpa using c
  refine Ok.bind (nx_ok ht6 (by omega)) fun y16 e16=>Ok.bind (nx_ok e16.2.2 (by omega)) fun y17 e17=>Ok.chk (in64_s (by omega) (by omega)) (Ok.ret ⟨⟨⟨k0,k1⟩,fun h=>by simp only at h;omega,fun h=>by simp only at h;omega,fun h=>by simp only at h;omega,fun _=>⟨rfl,rfl⟩,fun h=>by simp only at h;omega,fun h=>by simp only at h;omega,fun h=>by simp only at h;omega,by simp only;omega,by simp only;omega,by simp only;omega⟩,e17.2.2⟩)
 have hk4:y6.1≠7:=by simpa using c
 refine Ok.ite (fun c=>?_) fun c=>?_
 ·have hk:y6.1=8:=by simpa using c
  refine Ok.bind (nx_ok ht6 (by omega)) fun y16 e16=>Ok.bind (nx_ok e16.2.2 (by omega)) fun y17 e17=>Ok.ret ⟨⟨⟨k0,k1⟩,fun h=>by simp only at h;omega,fun h=>by simp only at h;omega,fun h=>by simp only at h;omega,fun h=>by simp only at h;omega,fun _=>⟨rfl,rfl,e17.2.1⟩,fun h=>by simp only at h;omega,fun h=>by simp only at h;omega,by simp only;omega,by simp only;omega,by simp only;omega⟩,e17.2.2⟩
 have hk5:y6.1≠8:=by simpa using c
 refine Ok.ite (fun c=>?_) fun c=>?_
 ·have hk:y6.1=9:=by simpa using c
  refine Ok.bind (nx_ok ht6 (by omega)) fun y16 e16=>Ok.bind (nx_ok e16.2.2 (by omega)) fun y17 e17=>Ok.ret ⟨⟨⟨k0,k1⟩,fun h=>by simp only at h;omega,fun h=>by simp only at h;omega,fun h=>by simp only at h;omega,fun h=>by simp only at h;omega,fun _=>⟨rfl,rfl,e17.2.1⟩,fun h=>by simp only at h;omega,fun h=>by simp only at h;omega,by simp only;omega,by simp only;omega,by simp only;omega⟩,e17.2.2⟩
 have hk6:y6.1≠9:=by simpa using c
 refine Ok.ite (fun c=>?_) fun c=>?_
 ·have hk:y6.1=10:=by simpa using c
  refine Ok.bind (nx_ok ht6 (by omega)) fun y16 e16=>Ok.ret ⟨⟨⟨k0,k1⟩,fun h=>by simp only at h;omega,fun h=>by simp only at h;omega,fun h=>by simp only at h;omega,fun h=>by simp only at h;omega,fun h=>by simp only at h;omega,fun _=>⟨rfl,rfl,rfl⟩,fun h=>by simp only at h;omega,by simp only;omega,by simp only;omega,by simp⟩,e16.2.2⟩
 have hk7:y6.1≠10:=by simpa using c
 refine Ok.bind (nx_ok ht6 (by omega)) fun y16 e16=>Ok.ret ⟨⟨by simp,fun h=>by simp only at h;omega,fun h=>by simp only at h;omega,fun h=>by simp only at h;omega,fun h=>by simp only at h;omega,fun h=>by simp only at h;omega,fun h=>by simp only at h;omega,fun _=>⟨n2,rfl,rfl,rfl⟩,by simp,by simp only;omega,by simp⟩,e16.2.2⟩
end Go.Ab
set_option maxRecDepth 20000
namespace Go.Ab
open Go.Proofs
abbrev ns4:List Str:=[[97,110,110],[111,112,115],[98,111,98],[100,101,118]]
theorem ns4_ok:∀n∈ns4,namedB n 12=true:=by
 intro n hn
 simp at hn
 rcases hn with rfl|rfl|rfl|rfl<;>rfl
abbrev gr2:List Str:=[[111,112,115],[100,101,118]]
theorem gr2_in {i:Int} (h0:0≤i) (h1:i<2):gr2.getD i.toNat default∈ns4:=by
 have:i=0∨i=1:=by omega
 rcases this with rfl|rfl<;>simp
theorem script_ok {t:GTape} (ht:TO t):Ok (F_1t t) fun y=>(4≤y.1.length∧y.1.length≤17∧∀c∈y.1,MC0 ns4 c)∧TO y.2:=by
 unfold F_1t
 refine Ok.bind (nx_ok ht (by omega)) fun y e=>Ok.bind (P:=fun r=>(4≤r.1.length∧r.1.length≤17∧∀c∈r.1,MC0 ns4 c)∧TO r.2) ?_ fun r hr=>Ok.ret hr
 refine Ok.loop (fun s=>0≤s.1∧4≤s.2.1.length∧(s.2.1.length:Int)+s.1≤17∧(∀c∈s.2.1,MC0 ns4 c)∧TO s.2.2) (fun s=>s.1.toNat) (fun s hs=>?_) _ ⟨e.1,by simp,by simp only [List.length_cons,List.length_nil];omega,?_,e.2.2⟩
 ·obtain ⟨k,l,t⟩:=s
  obtain ⟨h0,h1,h2,h3,h4⟩:=hs
  simp only at h0 h1 h2 h3 h4
  unfold F_2n
  refine Ok.ite (fun c=>?_) fun c=>Ok.ret ⟨⟨h1,by show l.length≤17;omega,h3⟩,h4⟩
  have hk:0<k:=by simpa using c
  refine Ok.jn (P:=fun j=>(4≤j.1.length∧(j.1.length:Int)≤l.length+1∧∀c∈j.1,MC0 ns4 c)∧TO j.2) ?_ fun j hj=>Ok.chk (in64_s (by simp only;omega) (by simp only;omega)) (Ok.ret ⟨⟨by simp only;omega,hj.1.1,by simp only;omega,hj.1.2.2,hj.2⟩,by simp only;omega⟩)
  refine Ok.bind (command_ok h4 (by simp) (by simp)) fun y e=>?_
  obtain ⟨m,ht1⟩:=e
  refine Ok.jn (P:=fun o=>o.elim (fun j=>MC0 ns4 j.1∧TO j.2) fun t=>TO t) ?_ fun o ho=>?_
  ·refine Ok.jn (P:=fun j=>j=true↔y.1.Kind=1∨y.1.Kind=2) (Ok.ite (fun c=>Ok.ret (by simp at c;simp [c])) fun c=>Ok.ret (by simp at c;simp [c])) fun j e7=>Ok.ite (fun c=>Ok.ret ht1) fun c=>?_
   have hk1:¬(y.1.Kind=1∨y.1.Kind=2):=fun h=>by rw [e7.2 h] at c;cases c
   refine Ok.jn (P:=fun j=>j=true↔y.1.Kind=3∨y.1.Kind=4) (Ok.ite (fun c=>Ok.ret (by simp at c;simp [c])) fun c=>Ok.ret (by simp at c;simp [c])) fun j e8=>Ok.ite (fun c=>?_) fun c=>?_
   ·have hk2:=e8.1 c
    refine Ok.bind (nx_ok ht1 (by omega)) fun z ez=>Ok.chk (inb_iff.2 ⟨ez.1,by simpa using ez.2.1⟩) (Ok.ite (fun _=>Ok.ret ez.2.2) fun _=>Ok.ret ⟨?_,ez.2.2⟩)
    have mj:=m.j hk2
    exact ⟨m.k,fun h=>absurd h hk1,fun _=>⟨mj.1,gr2_in ez.1 ez.2.1,mj.2.2.1,mj.2.2.2⟩,fun h=>by simp only at h;omega,fun h=>by simp only at h;omega,fun h=>by simp only at h;omega,fun h=>by simp only at h;omega,fun h=>by simp only at h;omega,m.t,m.a,m.b⟩
   ·refine Ok.ite (fun c=>?_) fun c=>Ok.ite (fun c=>Ok.ite (fun _=>Ok.ret ht1) fun _=>Ok.ret ⟨m,ht1⟩) fun c=>Ok.ret ⟨m,ht1⟩
    have h7:y.1.Kind=7:=by simpa using c
    have mt:=m.t
    refine Ok.chk (in64_s (by omega) (by omega)) (Ok.bind (nx_ok ht1 (by omega)) fun z ez=>Ok.chk (in64_s (by omega) (by omega)) (Ok.ret ⟨?_,ez.2.2⟩))
    have mo:=m.o h7
    exact ⟨m.k,fun h=>by simp only at h;omega,fun h=>by simp only at h;omega,fun h=>by simp only at h;omega,fun _=>mo,fun h=>by simp only at h;omega,fun h=>by simp only at h;omega,fun h=>by simp only at h;omega,m.t,m.a,by simp only;omega⟩
  ·cases o with
   | nx j =>
    refine Ok.chk (room_iff.2 (by simp only [List.length_cons,List.length_nil];omega)) (Ok.ret ⟨⟨by simp only [List.length_append,List.length_cons,List.length_nil];omega,by simp only [List.length_append,List.length_cons,List.length_nil];omega,fun c hc=>?_⟩,ho.2⟩)
    rcases List.mem_append.1 hc with hc|hc
    ·exact h3 c hc
    ·simp at hc;subst hc;exact ho.1
   | ex t=>exact Ok.ret ⟨⟨h1,by simp only;omega,h3⟩,ho⟩
 ·intro c hc
  simp at hc
  rcases hc with rfl|rfl|rfl|rfl<;>exact ⟨by simp,fun _=>by simp,fun h=>by simp at h,fun h=>by simp at h,fun h=>by simp at h,fun h=>by simp at h,fun h=>by simp at h,fun h=>by simp at h,by simp,by simp,by simp⟩
theorem back44 {tape:List Int} (ht:(V.sl (tape.map (V.int .i64))).fact):F_2w tape=some true:=by
 have h0:TO (GTape.mk tape 0):=⟨Int.le_refl 0,Int.ofNat_le.2 (fact_sl ht)⟩
 refine Ok.eq ?_
 unfold F_2w
 refine Ok.ite (fun _=>by rw [awake44];exact Ok.ret rfl) fun _=>?_
 refine Ok.bind (script_ok h0) fun y hy=>?_
 obtain ⟨⟨n4,n17,hm⟩,_⟩:=hy
 have hs:Sc y.1:=⟨fun c hc=>mc_5y ns4_ok (hm c hc),by omega⟩
 have hl:=tx_len y.1 hs.vc
 obtain ⟨i,c,hx⟩:∃i c,y.1=i++[c]:=⟨y.1.dropLast,y.1.getLast (by intro e;rw [e] at n4;simp at n4),(List.dropLast_concat_getLast _).symm⟩
 have hi:y.1.length=i.length+1:=by rw [hx];simp
 have et:txC y.1=(txC i++bdC c)++[10]:=by rw [hx];simp [txC,lnC_eq]
 have el:(txC y.1).length=(txC i++bdC c).length+1:=by rw [et];simp;omega
 have e3:(txC y.1).take (((txC y.1).length:Int) - 1).toNat=txC i++bdC c:=by
  have:(((txC y.1).length:Int) - 1).toNat=(txC i++bdC c).length:=by omega
  rw [this,et,List.take_left]
 have hc:=Parse_cut (i:=i) (c:=c) (by rw [←hx];exact hs)
 rw [Format_eq hs,Option.bind_some,Parse_eq hs,Option.bind_some]
 simp only [Same_eq,Option.bind_some,grp,decide_true,Bool.not_true,Bool.or_self,cond_false,Bool.false_or]
 have e4:decide (((txC y.1).length:Int)=0)=false:=decide_eq_false (by omega)
 rw [e4]
 simp only [cond_false,jn,Option.bind_some,Fl.elim]
 rw [chk_true (in64_s (by omega) (by omega)),chk_true (inc_iff.2 (by omega)),e3,hc]
 simp only [Option.bind_some,decide_true,cond_true]
 rw [chk_true (in64_s (by omega) (by omega))]
 have e5:decide ((i.length:Int)=(y.1.length:Int) - 1)=true:=decide_eq_true (by omega)
 simp only [e5,Option.bind_some,cond_true,awake44]
 exact Ok.ret rfl
theorem acall_fact2 {P:Program} {f:FuncId} {ys:List V} {H:Heap} {Q:V→Heap→Prop} (hc:callable P f=true) (h:(∀y∈ys,y.fact)→ACall P f ys H Q):ACall P f ys H Q :=
 ⟨hc,fun g w vals hH hs hr=>(h fun y hy=>by
  obtain ⟨i,hi⟩:=List.getElem?_of_mem hy
  exact (hr i y hi).fact).2 g w vals hH hs hr⟩
theorem call44b {tape:List Int}:ACall Tryz.prog 7 [.sl (tape.map (V.int .i64))] [] (fun r H=>r=.bool true∧H=[]) :=
 acall_fact2 (by kernel_rfl) fun h=>Wq_law44_ConsoleBack.c.w (back44 (h _ (by simp)))
end Go.Ab
