/- Chapter 27: what the functions of access answer, in plain words. -/
import Derived.Test.YtnaeedamiaoipaaGreatDoorLB
import Derived.Test.YtnaeedamiaoipaaGreatDoorAbHo
import Derived.Test.YtnaeedamiaoipaaGreatDoorAbSearch
set_option linter.all false
set_option linter.all false
namespace Go.Ab
open Go.Proofs
def xok (P:Int) (x:GAccess):Prop :=
 0≤x.Time∧x.Time≤1099511627776∧0≤x.Place∧x.Place≤P - 1 ∧
 ((x.Kind=1∨x.Kind=2)∧0≤x.Principal∧x.Principal≤23∧x.Until=0∧x.Content=0∧x.From=0 ∨
  x.Kind=3∧x.Time<x.Until∧x.Until≤1099511627776∧x.Principal=0∧x.Content=0∧x.From=0 ∨
  x.Kind=4∧x.Principal=0∧x.Until=0∧x.Content=0∧x.From=0 ∨
  (x.Kind=5∨x.Kind=6)∧0≤x.Content∧x.Content≤63∧x.Principal=0∧x.Until=0∧x.From=0 ∨
  x.Kind=7∧0≤x.From∧x.From≤P - 1∧x.From≠x.Place∧x.Principal=0∧x.Until=0∧x.Content=0)
structure Good (a:GEstate):Prop where
 lo:1≤a.Places
 hi:a.Places≤16
 len:a.Events.length≤120
 ev:∀x∈a.Events,xok a.Places x
 srt:a.Events.Pairwise fun x y=>x.Time≤y.Time
theorem among_eqA (n lo hi:Int):F_9 n lo hi=some (decide (lo≤n∧n≤hi)):=by
 simp [F_9,grp]
theorem in64_sm {n:Int} (h1:-1000000000000000≤n) (h2:n≤1000000000000000):in64 n=true:=in64_iff.2 ⟨by omega,by omega⟩
theorem place_eqA (a:GEstate) (p:Int) (h1:1≤a.Places) (h2:a.Places≤16):F_4 a p=some (decide (0≤p∧p≤a.Places - 1)):=by
 simp [F_4,among_eqA,chk_true (in64_sm (n:=a.Places - 1) (by omega) (by omega))]
theorem right_eqA (a:GEstate) (x:GAccess) (h1:1≤a.Places) (h2:a.Places≤16) (h0:0≤x.Time) (hm:x.Time≤1099511627776):∃b,F_y a x=some b∧(b=true↔xok a.Places x):=by
 obtain ⟨T,K,P,pr,U,C,F⟩:=x
 simp only at h0 hm
 simp only [F_y,among_eqA,place_eqA a _ h1 h2,F_a,jn,grp,Option.bind_some,Option.bind_eq_bind]
 by_cases k1:K=1
 ·subst k1
  by_cases c1:0≤pr<;>by_cases c2:pr≤23<;>simp [xok,c1,c2]<;>omega
 by_cases k2:K=2
 ·subst k2
  by_cases c1:0≤pr<;>by_cases c2:pr≤23<;>simp [xok,c1,c2]<;>omega
 by_cases k3:K=3
 ·subst k3
  by_cases c:T<U<;>by_cases c2:U≤1099511627776<;>simp [xok,c,c2]<;>omega
 by_cases k4:K=4
 ·subst k4
  simp [xok]
  omega
 by_cases k5:K=5
 ·subst k5
  by_cases c1:0≤C<;>by_cases c2:C≤63<;>simp [xok,c1,c2]<;>omega
 by_cases k6:K=6
 ·subst k6
  by_cases c1:0≤C<;>by_cases c2:C≤63<;>simp [xok,c1,c2]<;>omega
 by_cases k7:K=7
 ·subst k7
  by_cases c1:0≤F<;>by_cases c2:F≤a.Places - 1<;>by_cases c3:F=P<;>simp [xok,c1,c2,c3]<;>omega
 ·simp [xok,k1,k2,k3,k4,k5,k6,k7]
def chain (P:Int):Int→List GAccess→Prop
 | _,[]=>True
 | last,x::r=>last≤x.Time∧xok P x∧chain P x.Time r
theorem chain_iff {P:Int}:∀{l:List GAccess} {last:Int},chain P last l↔((∀x∈l,last≤x.Time∧xok P x)∧l.Pairwise fun x y=>x.Time≤y.Time)
 | [],last=>by simp [chain]
 | x::r,last=>by
  simp only [chain,chain_iff (l:=r),List.mem_cons,List.pairwise_cons]
  constructor
  ·rintro ⟨h1,h2,h3,h4⟩
   refine ⟨fun y hy=>?_,fun y hy=>(h3 y hy).1,h4⟩
   rcases hy with rfl|hy
   ·exact ⟨h1,h2⟩
   ·exact ⟨Int.le_trans h1 (h3 y hy).1,(h3 y hy).2⟩
  ·rintro ⟨h1,h2,h3⟩
   exact ⟨(h1 x (.inl rfl)).1,(h1 x (.inl rfl)).2,fun y hy=>⟨h2 y hy,(h1 y (.inr hy)).2⟩,h3⟩
open Classical in
theorem chkL_eq (a:GEstate) (h1:1≤a.Places) (h2:a.Places≤16):∀(l:List GAccess) (k last:Int),0≤last→∃o,forL (F_z a) l k last=some o∧(chain a.Places last l→∃s,o=.nx s)∧(¬chain a.Places last l→o=.ex 34)
 | [],k,last,h=>⟨.nx last,rfl,fun _=>⟨_,rfl⟩,fun hc=>absurd trivial hc⟩
 | x::r,k,last,h=>by
  simp only [forL,F_z,grp,chain]
  by_cases c:x.Time<last∨1099511627776<x.Time
  ·have c':(decide (x.Time<last)||decide (1099511627776<x.Time))=true:=by simpa using c
   simp only [c',cond_true,Option.bind_some,Fl_ex]
   refine ⟨_,rfl,fun hc=>?_,fun _=>rfl⟩
   have:=hc.2.1.2.1
   omega
  ·have c':(decide (x.Time<last)||decide (1099511627776<x.Time))=false:=by simpa using c
   obtain ⟨b,hb,hb2⟩:=right_eqA a x h1 h2 (by omega) (by omega)
   simp only [c',cond_false,hb,Option.bind_some]
   cases b with
   | false =>
    simp only [Bool.not_false,cond_true,Option.bind_some,Fl_ex]
    refine ⟨_,rfl,fun hc=>?_,fun _=>rfl⟩
    have:=hb2.2 hc.2.1
    cases this
   | true =>
    simp only [Bool.not_true,cond_false,Option.bind_some,Fl_nx]
    obtain ⟨o,ho,ho1,ho2⟩:=chkL_eq a h1 h2 r (k+1) x.Time (by omega)
    refine ⟨o,ho,fun hc=>ho1 hc.2.2,fun hc=>ho2 fun h3=>hc ⟨by omega,hb2.1 rfl,h3⟩⟩
theorem good_iff (a:GEstate):Good a↔(1≤a.Places∧a.Places≤16)∧a.Events.length≤120∧chain a.Places 0 a.Events:=by
 rw [chain_iff]
 constructor
 ·rintro ⟨h1,h2,h3,h4,h5⟩
  exact ⟨⟨h1,h2⟩,h3,fun x hx=>⟨(h4 x hx).1,h4 x hx⟩,h5⟩
 ·rintro ⟨⟨h1,h2⟩,h3,h4,h5⟩
  exact ⟨h1,h2,h3,fun x hx=>(h4 x hx).2,h5⟩
open Classical in
theorem check_eqA (a:GEstate):F_3 a=some (if Good a then 0 else 34):=by
 simp only [F_3,among_eqA,Option.bind_some,grp]
 by_cases c:1≤a.Places∧a.Places≤16
 ·by_cases c2:a.Events.length≤120
  ·have c':(!decide (1≤a.Places∧a.Places≤16)||decide (120<(a.Events.length:Int)))=false:=by simp [c];omega
   obtain ⟨o,ho,ho1,ho2⟩:=chkL_eq a c.1 c.2 a.Events 0 0 (Int.le_refl 0)
   simp only [c',cond_false,ho,Option.bind_some]
   by_cases hc:chain a.Places 0 a.Events
   ·obtain ⟨s,rfl⟩:=ho1 hc
    have:Good a:=(good_iff a).2 ⟨c,c2,hc⟩
    simp [this,Fl_nx]
   ·rw [ho2 hc]
    have:¬Good a:=fun h=>hc ((good_iff a).1 h).2.2
    simp [this,Fl_ex]
  ·have c':(!decide (1≤a.Places∧a.Places≤16)||decide (120<(a.Events.length:Int)))=true:=by simp;omega
   have:¬Good a:=fun h=>c2 h.len
   simp only [c',cond_true,if_neg this]
 ·have:¬Good a:=fun h=>c ⟨h.lo,h.hi⟩
  simp [c,this]
open Classical in
theorem known_eq (a:GEstate) (p:Int):F_b a p=some (decide (Good a∧0≤p∧p≤a.Places - 1)):=by
 simp only [F_b,check_eqA,Option.bind_some,jn]
 by_cases h:Good a
 ·simp [h,place_eqA a p h.lo h.hi]
 ·simp [h]
theorem known_of {a:GEstate} {p:Int} (h:Good a) (h1:0≤p) (h2:p≤a.Places - 1):F_b a p=some true:=by
 rw [known_eq];simp [h,h1];omega
theorem Good.sub {a:GEstate} (h:Good a) {l:List GAccess} (hl:l.Sublist a.Events):Good ⟨a.Places,l⟩ :=
 ⟨h.lo,h.hi,Nat.le_trans hl.length_le h.len,fun x hx=>h.ev x (hl.subset hx),h.srt.sublist hl⟩
def lst (p t:Int) (i:Int) (x:GAccess) (s:Int×Bool):Int×Bool :=
 if t<x.Time∨x.Place≠p then s else if x.Kind=4 then (0,false) else if x.Kind=3∧t<x.Until then (i,true) else s
def lkf (p t:Int):List GAccess→Int→Int×Bool→Int×Bool
 | [],_,s=>s
 | x::r,i,s=>lkf p t r (i+1) (lst p t i x s)
theorem lkf_append (p t:Int):∀(l m:List GAccess) (i:Int) (s:Int×Bool),lkf p t (l++m) i s=lkf p t m (i+l.length) (lkf p t l i s)
 | [],m,i,s=>by simp [lkf]
 | x::r,m,i,s=>by
  simp only [List.cons_append,lkf,lkf_append p t r m]
  congr 1
  simp;omega
def lfind (p t:Int) (y:Int×GAccess):Option (Int×Bool) :=
 if t<y.2.Time∨y.2.Place≠p then none else if y.2.Kind=4 then some (0,false) else if y.2.Kind=3∧t<y.2.Until then some (y.1,true) else none
theorem link_body (p t k:Int) (y:Int×GAccess):F_3n p t k y ()=some (flO (lfind p t y)):=by
 simp only [F_3n,grp,lfind]
 by_cases c:t<y.2.Time∨y.2.Place≠p
 ·have c':(decide (t<y.2.Time)||!decide (y.2.Place=p))=true:=by simpa using c
  simp [c',c,flO]
 ·have c':(decide (t<y.2.Time)||!decide (y.2.Place=p))=false:=by simpa using c
  simp only [c',cond_false,if_neg c]
  by_cases c2:y.2.Kind=4
  ·simp [c2,flO]
  ·by_cases c3:y.2.Kind=3∧t<y.2.Until
   ·simp [c2,c3,flO]
   ·have c4:(decide (y.2.Kind=3)&&decide (t<y.2.Until))=false:=by simpa using c3
    rw [if_neg c2,if_neg c3]
    simp [c2,c4,flO]
theorem revp_snoc (l:List GAccess) (x:GAccess):revp (l++[x])=((l.length:Int),x)::revp l:=by
 unfold revp
 rw [List.length_append,List.length_singleton,List.range_succ_eq_map]
 simp only [List.map_cons,List.map_map]
 congr 1
 ·simp
 ·refine List.map_congr_left fun k hk=>?_
  have:=List.mem_range.1 hk
  simp only [Function.comp]
  have e:l.length+1 - 1 - (k+1)=l.length - 1 - k:=by omega
  rw [show k.succ=k+1 from rfl,e,List.getD_eq_getElem?_getD,List.getD_eq_getElem?_getD,List.getElem?_append_left (by omega)]
theorem revList_ind {α:Type} {m:List α→Prop} (h0:m []) (h1:∀l x,m l→m (l++[x])) (l:List α):m l:=by
 have:∀n (l:List α),l.length=n→m l:=by
  intro n
  induction n with
  | zero=>intro l hl;rw [List.length_eq_zero_iff.1 hl];exact h0
  | succ n ih =>
   intro l hl
   have hne:l≠[]:=by intro e;simp [e] at hl
   rw [←List.dropLast_concat_getLast hne]
   exact h1 _ _ (ih _ (by simp [hl]))
 exact this _ l rfl
theorem find_lkf (p t:Int) (l:List GAccess):(findL (lfind p t) (revp l)).getD (0,false)=lkf p t l 0 (0,false):=by
 induction l using revList_ind with
 | h0=>rfl
 | h1 l x ih =>
  rw [revp_snoc,lkf_append]
  simp only [findL,lkf,Int.zero_add]
  rw [←ih]
  unfold lfind lst
  by_cases c:t<x.Time∨x.Place≠p
  ·simp only [if_pos c]
  ·simp only [if_neg c]
   by_cases c2:x.Kind=4
   ·simp [c2]
   ·by_cases c3:x.Kind=3∧t<x.Until
    ·simp [c2,c3]
    ·simp only [if_neg c2,if_neg c3]
theorem linked_eq {a:GEstate} {p:Int} (t:Int) (h:F_b a p=some true):F_c a p t=some (lkf p t a.Events 0 (0,false)):=by
 simp only [F_c,h,Option.bind_some,Bool.not_true,cond_false,backF]
 rw [forL_find (lfind p t) (revp a.Events) 0 fun k y _=>link_body p t k y,←find_lkf]
 cases findL (lfind p t) (revp a.Events)<;>rfl
end Go.Ab
namespace Go.Ab
open Go.Proofs
def foldP {α σ:Type} (f:Int→α→σ→σ):List α→Int→σ→σ
 | [],_,s=>s
 | x::r,k,s=>foldP f r (k+1) (f k x s)
theorem foldL_plain {α σ:Type} {body:Int→α→σ→Option σ} (f:Int→α→σ→σ) (h:∀k x s,body k x s=some (f k x s)):∀(xs:List α) (k:Int) (s:σ),foldL body xs k s=some (foldP f xs k s)
 | [],k,s=>rfl
 | x::r,k,s=>by simp only [foldL,h,Option.bind_some,foldP,foldL_plain f h r]
theorem foldL_push {α β:Type} {body:Int→α→List β→Option (List β)} (g:α→β) (b:Nat) (n:Nat) (hn:n*b≤140737488355328) (h:∀k x s,body k x s=chk (room (s.length+[g x].length) b) (some (s++[g x]))) :
  ∀(xs:List α) (k:Int) (s:List β),s.length+xs.length≤n→foldL body xs k s=some (s++xs.map g)
 | [],k,s,hl=>by simp [foldL]
 | x::r,k,s,hl=>by
  have:room (s.length+[g x].length) b=true:=room_iff.2 (by
   simp at hl ⊢
   exact Nat.le_trans (Nat.mul_le_mul_right b (by omega)) hn)
  simp only [foldL,h,chk_true this,Option.bind_some]
  rw [foldL_push g b n hn h r (k+1) _ (by simp at hl ⊢;omega)]
  simp
def gst (p t:Int) (i:Int) (x:GAccess) (m:List (Int×Int)):List (Int×Int) :=
 if t<x.Time∨x.Place≠p then m else if x.Kind=1 then aput x.Principal i m else if x.Kind=2 then adel x.Principal m else m
def grf (p t:Int) (l:List GAccess):List (Int×Int):=foldP (gst p t) l 0 []
theorem gst_body (p t k:Int) (x:GAccess) (m:List (Int×Int)):F_2v p t k x m=some (gst p t k x m):=by
 simp only [F_2v,grp,gst]
 by_cases c:t<x.Time∨x.Place≠p
 ·have c':(decide (t<x.Time)||!decide (x.Place=p))=true:=by simpa using c
  simp [c',c]
 ·have c':(decide (t<x.Time)||!decide (x.Place=p))=false:=by simpa using c
  simp only [c',cond_false,if_neg c]
  by_cases c2:x.Kind=1
  ·simp [c2]
  ·by_cases c3:x.Kind=2<;>simp [c2,c3]
theorem grants_eq (a:GEstate) (p t:Int):F_1p a p t=some (grf p t a.Events):=by
 simp only [F_1p,foldL_plain (gst p t) (gst_body p t),Option.bind_some,grf]
theorem keys_aput (k v:Int):∀m:List (Int×Int),(aput k v m).map Prod.fst=if k∈m.map Prod.fst then m.map Prod.fst else m.map Prod.fst++[k]
 | []=>by simp [aput]
 | (a,b)::r=>by
  by_cases e:k=a
  ·simp [aput,e]
  ·have ih:=keys_aput k v r
   simp only [aput,if_neg e,List.map_cons,ih,List.mem_cons]
   by_cases c:k∈List.map Prod.fst r<;>simp only [e,c,false_or,if_true,if_false,List.cons_append]
theorem keys_adel (k:Int):∀m:List (Int×Int),(adel k m).map Prod.fst=(m.map Prod.fst).erase k
 | []=>by simp [adel]
 | (a,b)::r=>by
  by_cases e:k=a
  ·simp [adel,e]
  ·have e':¬a=k:=fun h=>e h.symm
   simp [adel,e,e',List.erase_cons,keys_adel k r]
def kst (p t:Int) (x:GAccess) (ks:List Int):List Int :=
 if t<x.Time∨x.Place≠p then ks else if x.Kind=1 then (if x.Principal∈ks then ks else ks++[x.Principal]) else if x.Kind=2 then ks.erase x.Principal else ks
def keysf (p t:Int) (l:List GAccess):List Int:=l.foldl (fun ks x=>kst p t x ks) []
theorem gst_keys (p t i:Int) (x:GAccess) (m:List (Int×Int)):(gst p t i x m).map Prod.fst=kst p t x (m.map Prod.fst):=by
 unfold gst kst
 split
 ·rfl
 ·split
  ·exact keys_aput _ _ _
  ·split
   ·exact keys_adel _ _
   ·rfl
theorem foldP_keys (p t:Int):∀(l:List GAccess) (i:Int) (m:List (Int×Int)),(foldP (gst p t) l i m).map Prod.fst=l.foldl (fun ks x=>kst p t x ks) (m.map Prod.fst)
 | [],i,m=>rfl
 | x::r,i,m=>by
  simp only [foldP,List.foldl_cons,foldP_keys p t r]
  rw [gst_keys]
theorem grf_keys (p t:Int) (l:List GAccess):(grf p t l).map Prod.fst=keysf p t l:=foldP_keys p t l 0 []
theorem keysf_snoc (p t:Int) (l:List GAccess) (x:GAccess):keysf p t (l++[x])=kst p t x (keysf p t l):=by simp [keysf]
theorem keysf_len (p t:Int) (l:List GAccess):(keysf p t l).length≤l.length:=by
 induction l using revList_ind with
 | h0=>simp [keysf]
 | h1 l x ih =>
  rw [keysf_snoc]
  simp only [List.length_append,List.length_singleton]
  unfold kst
  split
  ·omega
  ·split
   ·split
    ·omega
    ·simp;omega
   ·split
    ·have:=List.length_erase_le (a:=x.Principal) (l:=keysf p t l);omega
    ·omega
def srtI (l:List Int):List Int:=l.mergeSort fun x y=>decide (x≤y)
theorem srtI_perm (l:List Int):(srtI l).Perm l:=List.mergeSort_perm _ _
theorem srtI_sorted (l:List Int):(srtI l).Pairwise (fun x y=>x≤y):=by
 have:=List.pairwise_mergeSort (le:=fun x y:Int=>decide (x≤y)) (fun a b c h1 h2=>by simp at *;omega) (fun a b=>by simp;omega) l
 exact this.imp fun h=>by simpa using h
theorem sorted_unique {l m:List Int} (h:l.Perm m) (h1:l.Pairwise (fun x y=>x≤y)) (h2:m.Pairwise (fun x y=>x≤y)):l=m :=
 h.eq_of_pairwise (fun a b _ _ h1 h2=>by omega) h1 h2
theorem srtI_congr {l m:List Int} (h:l.Perm m):srtI l=srtI m :=
 sorted_unique ((srtI_perm l).trans (h.trans (srtI_perm m).symm)) (srtI_sorted l) (srtI_sorted m)
theorem srtI_mem {l:List Int} {x:Int}:x∈srtI l↔x∈l:=(srtI_perm l).mem_iff
theorem granted_eq {a:GEstate} {p:Int} (t:Int) (hn:a.Events.length≤120) (h:F_b a p=some true):F_n a p t=some (srtI (keysf p t a.Events)):=by
 simp only [F_n,h,Option.bind_some,Bool.not_true,cond_false,grants_eq]
 refine permL_of fun l hl=>?_
 have hp:(l.map Prod.fst).Perm (keysf p t a.Events):=by rw [←grf_keys];exact hl.map _
 have hlen:l.length≤120:=by
  have h1:=hp.length_eq
  have h2:=keysf_len p t a.Events
  simp at h1;omega
 rw [foldL_push (body:=F_1q) (g:=Prod.fst) (b:=8) (n:=120) (by omega) (fun k x s=>rfl) l 0 [] (by simpa using hlen)]
 simp only [Option.bind_some,List.nil_append,sortI]
 have:(l.map Prod.fst).length<4611686018427387904:=by simp;omega
 rw [if_pos this]
 simp only [Option.bind_some]
 exact congrArg some (srtI_congr hp)
end Go.Ab
namespace Go.Ab
open Go.Proofs
def mok (d:GDirectory) (x:GMember):Prop :=
 (x.Kind=1∨x.Kind=2)∧0≤x.Time∧x.Time≤1099511627776∧(0≤x.Principal∧x.Principal<d.Kinds.length)∧(0≤x.Group∧x.Group<d.Kinds.length∧d.Kinds.getD x.Group.toNat default=2)∧x.Principal≠x.Group
structure GoodD (d:GDirectory):Prop where
 kl:d.Kinds.length≤24
 el:d.Events.length≤120
 kd:∀k∈d.Kinds,1≤k∧k≤3
 ev:∀x∈d.Events,mok d x
 srt:d.Events.Pairwise fun x y=>x.Time≤y.Time
theorem dexists_eq (d:GDirectory) (p:Int):F_8 d p=some (decide (0≤p∧p<d.Kinds.length)):=by simp [F_8,grp]
theorem dgroup_eq (d:GDirectory) (p:Int):F_w d p=some (decide (0≤p∧p<d.Kinds.length∧d.Kinds.getD p.toNat default=2)):=by
 simp only [F_w,dexists_eq,Option.bind_some,jn]
 by_cases c:0≤p∧p<d.Kinds.length
 ·simp [c,chk_true (inb_iff.2 c)]
 ·have:¬(0≤p∧p<(d.Kinds.length:Int)∧d.Kinds.getD p.toNat default=2):=fun h=>c ⟨h.1,h.2.1⟩
  simp only [decide_eq_false c,decide_eq_false this,cond_false,Option.bind_some]
def dchain (d:GDirectory):Int→List GMember→Prop
 | _,[]=>True
 | last,x::r=>(last≤x.Time∧mok d x)∧dchain d x.Time r
theorem dchain_iff {d:GDirectory}:∀{l:List GMember} {last:Int},dchain d last l↔((∀x∈l,last≤x.Time∧mok d x)∧l.Pairwise fun x y=>x.Time≤y.Time)
 | [],_=>by simp [dchain]
 | x::r,last=>by
  simp only [dchain,dchain_iff,List.mem_cons,List.pairwise_cons]
  constructor
  ·rintro ⟨h1,h2,h3⟩
   refine ⟨fun y hy=>?_,fun y hy=>(h2 y hy).1,h3⟩
   rcases hy with rfl|hy
   ·exact h1
   ·have:=h1.1
    exact ⟨by have:=(h2 y hy).1;omega,(h2 y hy).2⟩
  ·rintro ⟨h1,h2,h3⟩
   exact ⟨h1 x (.inl rfl),fun y hy=>⟨h2 y hy,(h1 y (.inr hy)).2⟩,h3⟩
theorem dchkL_eq (d:GDirectory):∀(l:List GMember) (k last:Int),0≤last→∃o,forL (F_x d) l k last=some o∧(dchain d last l→∃s,o=.nx s)∧(¬dchain d last l→o=.ex 30)
 | [],k,last,_=>⟨.nx last,rfl,fun _=>⟨_,rfl⟩,fun h=>absurd trivial h⟩
 | x :: r,k,last,h0=>by
  simp only [forL,F_x,grp,dexists_eq,dgroup_eq,jn]
  by_cases c:last≤x.Time∧mok d x
  ·obtain ⟨c1,c2,c3,c4,c5,c6,c7⟩:=c
   have e1:(!decide (x.Kind=1)&&!decide (x.Kind=2))=false:=by
    rcases c2 with h|h<;>simp [h]
   have e2:decide (x.Time<last)=false:=decide_eq_false (by omega)
   have e3:decide (1099511627776<x.Time)=false:=decide_eq_false (by omega)
   simp only [e1,e2,e3,Bool.or_self,cond_false,Option.bind_some,decide_eq_true c5,Bool.not_true,decide_eq_true c6,decide_eq_false c7,Fl_nx]
   obtain ⟨o,h1,h2,h3⟩:=dchkL_eq d r (k+1) x.Time c3
   refine ⟨o,h1,fun h=>h2 h.2,fun h=>h3 fun hc=>h ⟨⟨c1,c2,c3,c4,c5,c6,c7⟩,hc⟩⟩
  ·refine ⟨.ex 30,?_,fun h=>absurd h.1 c,fun _=>rfl⟩
   by_cases d1:x.Kind=1∨x.Kind=2
   ·have e1:(!decide (x.Kind=1)&&!decide (x.Kind=2))=false:=by
     rcases d1 with h|h<;>simp [h]
    by_cases d2:x.Time<last∨1099511627776<x.Time
    ·have:(decide (x.Time<last)||decide (1099511627776<x.Time))=true:=by simpa using d2
     simp only [e1,Bool.false_or,this,cond_true,Option.bind_some,Fl_ex]
    ·have:(decide (x.Time<last)||decide (1099511627776<x.Time))=false:=by
      simp only [Bool.or_eq_false_iff,decide_eq_false_iff_not];omega
     simp only [e1,Bool.false_or,this,cond_false,Option.bind_some]
     by_cases d3:0≤x.Principal∧x.Principal<d.Kinds.length
     ·simp only [decide_eq_true d3,Bool.not_true,cond_false]
      by_cases d4:0≤x.Group∧x.Group<d.Kinds.length∧d.Kinds.getD x.Group.toNat default=2
      ·have d5:x.Principal=x.Group:=Classical.byContradiction fun hne=>c ⟨by omega,d1,by omega,by omega,d3,d4,hne⟩
       simp only [decide_eq_true d4,decide_eq_true d5,Bool.not_true,Bool.false_or,cond_true,Option.bind_some,Fl_ex]
      ·simp only [decide_eq_false d4,Bool.not_false,Bool.true_or,cond_true,Option.bind_some,Fl_ex]
     ·simp only [decide_eq_false d3,Bool.not_false,cond_true,Option.bind_some,Fl_ex]
   ·have e1:(!decide (x.Kind=1)&&!decide (x.Kind=2))=true:=by
     simp only [not_or] at d1
     simp [d1.1,d1.2]
    simp only [e1,Bool.true_or,cond_true,Option.bind_some,Fl_ex]
theorem find_negD {α:Type} {body:Int→α→Unit→Option (Fl Unit Int)} (p:α→Prop) [DecidablePred p] (h:∀k x,body k x ()=some (if p x then .ex k else .nx ())):∀(xs:List α) (k:Int),0≤k →
  ∃o,forL body xs k ()=some o∧((∃x∈xs,p x)→∃r,o=.ex r∧0≤r)∧((∀x∈xs,¬p x)→o=.nx ())
 | [],k,hk=>⟨.nx (),rfl,fun ⟨x,hx,_⟩=>by simp at hx,fun _=>rfl⟩
 | x::r,k,hk=>by
  simp only [forL,h]
  by_cases c:p x
  ·simp only [if_pos c,Option.bind_some,Fl_ex]
   exact ⟨_,rfl,fun _=>⟨k,rfl,hk⟩,fun hn=>absurd c (hn x (by simp))⟩
  ·simp only [if_neg c,Option.bind_some,Fl_nx]
   obtain ⟨o,h1,h2,h3⟩:=find_negD p h r (k+1) (by omega)
   refine ⟨o,h1,fun ⟨y,hy,hp⟩=>?_,fun hn=>h3 fun y hy=>hn y (by simp [hy])⟩
   rcases List.mem_cons.1 hy with rfl|hy
   ·exact absurd hp c
   ·exact h2 ⟨y,hy,hp⟩
theorem contains_ofD {α:Type} {body:Int→α→Unit→Option (Fl Unit Int)} (p:α→Prop) [DecidablePred p] (xs:List α) [Decidable (∃x∈xs,p x)] (h:∀k x,body k x ()=some (if p x then .ex k else .nx ())) :
  (((forL body xs 0 ()).bind fun o=>o.elim (fun _=>some (-1)) fun r=>some r).bind fun y=>some (decide (0≤y)))=some (decide (∃x∈xs,p x)):=by
 obtain ⟨o,h1,h2,h3⟩:=find_negD p h xs 0 (Int.le_refl 0)
 rw [h1]
 by_cases c:∃x∈xs,p x
 ·obtain ⟨r,rfl,hr⟩:=h2 c
  simp only [Option.bind_some,Fl_ex,decide_eq_true hr,decide_eq_true c]
 ·have:=h3 fun x hx hp=>c ⟨x,hx,hp⟩
  subst this
  simp only [Option.bind_some,Fl_nx,decide_eq_false c]
  rfl
theorem dcont_eq (s:List Int) (v:Int):F_29 s v=some (decide (v∈s)):=by
 have h:=contains_ofD (body:=F_2w v) (fun y=>v=y) s fun k y=>by
  by_cases c:v=y<;>simp [F_2w,c]
 have e:decide (∃y∈s,v=y)=decide (v∈s):=decide_eq_decide.2 ⟨fun ⟨y,hy,e⟩=>e▸hy,fun h=>⟨v,h,rfl⟩⟩
 rw [e] at h
 exact h
theorem goodD_iff (d:GDirectory):GoodD d↔d.Kinds.length≤24∧d.Events.length≤120∧(∀k∈d.Kinds,1≤k∧k≤3)∧dchain d 0 d.Events:=by
 rw [dchain_iff]
 exact ⟨fun h=>⟨h.kl,h.el,h.kd,fun x hx=>⟨(h.ev x hx).2.1,h.ev x hx⟩,h.srt⟩,fun ⟨h1,h2,h3,h4,h5⟩=>⟨h1,h2,h3,fun x hx=>(h4 x hx).2,h5⟩⟩
open Classical in
theorem dcheck_eq (d:GDirectory):F_5 d=some (if GoodD d then 0 else 30):=by
 simp only [F_5,grp]
 by_cases h1:d.Kinds.length≤24∧d.Events.length≤120
 ·have e1:(decide (24<(d.Kinds.length:Int))||decide (120<(d.Events.length:Int)))=false:=by
   simp only [Bool.or_eq_false_iff,decide_eq_false_iff_not];omega
  have e2:F_26 d.Kinds=some (decide (∃k∈d.Kinds,¬(1≤k∧k≤3))):=by
   refine contains_ofD (fun k=>¬(1≤k∧k≤3)) d.Kinds fun k x=>?_
   simp only [F_25,F_l,grp,Option.bind_some]
   by_cases c:1≤x∧x≤3
   ·have:(decide (x<1)||decide (3<x))=false:=by simp only [Bool.or_eq_false_iff,decide_eq_false_iff_not];omega
    simp [this,c]
   ·have:(decide (x<1)||decide (3<x))=true:=by simp only [Bool.or_eq_true,decide_eq_true_eq];omega
    simp only [this,cond_true,c,not_false_eq_true,if_true]
  simp only [e1,e2,cond_false,Option.bind_some]
  by_cases q:∃k∈d.Kinds,¬(1≤k∧k≤3)
  ·have:¬GoodD d:=fun h=>by obtain ⟨k,hk,hn⟩:=q;exact hn (h.kd k hk)
   simp only [decide_eq_true q,cond_true,if_neg this]
  ·simp only [decide_eq_false q,cond_false]
   have q':∀k∈d.Kinds,1≤k∧k≤3:=fun k hk=>Classical.byContradiction fun hn=>q ⟨k,hk,hn⟩
   obtain ⟨o,k1,k2,k3⟩:=dchkL_eq d d.Events 0 0 (Int.le_refl 0)
   rw [k1]
   by_cases c:dchain d 0 d.Events
   ·obtain ⟨s,rfl⟩:=k2 c
    simp only [Option.bind_some,Fl_nx,if_pos ((goodD_iff d).2 ⟨h1.1,h1.2,q',c⟩)]
   ·rw [k3 c]
    have:¬GoodD d:=fun h=>c ((goodD_iff d).1 h).2.2.2
    simp only [Option.bind_some,Fl_ex,if_neg this]
 ·have e1:(decide (24<(d.Kinds.length:Int))||decide (120<(d.Events.length:Int)))=true:=by
   simp only [Bool.or_eq_true,decide_eq_true_eq];omega
  have:¬GoodD d:=fun h=>h1 ⟨h.kl,h.el⟩
  simp only [e1,cond_true,if_neg this]
theorem dknown_eq {d:GDirectory} (g:GoodD d) (p:Int):F_1m d p=some (decide (0≤p∧p<d.Kinds.length)):=by
 simp only [F_1m,dcheck_eq,if_pos g,Option.bind_some,decide_true,cond_true,dexists_eq,jn]
end Go.Ab
namespace Go.Ab
open Go.Proofs
inductive RT (L:Nat→Nat→Bool) (n p:Nat):Nat→Prop
 | refl:RT L n p p
 | step {a b:Nat} (h:RT L n p a) (ha:a<n) (hb:b<n) (hl:L a b=true):RT L n p b
theorem room_smD {n b:Nat} (h:n*b≤1000000):room n b=true:=room_iff.2 (by omega)
def gt (o:List Bool):Nat→Bool:=fun i=>o.getD i false
theorem gt_set {o:List Bool} {k:Nat} (hk:k<o.length) (i:Nat):gt (o.set k true) i=if i=k then true else gt o i:=by
 simp only [gt,List.getD_eq_getElem?_getD,List.getElem?_set]
 by_cases e:k=i
 ·subst e;simp [hk]
 ·rw [if_neg e,if_neg (fun h=>e h.symm)]
theorem uprow_ok {L:Nat→Nat→Bool} {n p:Nat} (hn:n≤24) {row:List Bool} (hr:row.length=n) {a:Nat} (ha:a<n) (hL:∀i,i<n→row.getD i false=L a i) (q:List Int) (o:List Bool) (ho:o.length=n) (hq:q.length≤100)
  (hR:∀i,i<n→gt o i=true→RT L n p i) (hRa:RT L n p a) :
  Ok (foldL F_1n row 0 (q,o)) fun s=>∃news,s.1=q++news∧s.2.length=n∧(∀x∈news,0≤x∧x<n∧gt s.2 x.toNat=true)∧(∀i,gt o i=true→gt s.2 i=true)∧(∀i,i<n→gt s.2 i=true→RT L n p i) ∧
   (∀i,i<n→L a i=true→gt s.2 i=true)∧(∀i,i<n→gt s.2 i=true→gt o i=true∨(i:Int)∈news)∧cnt (gt s.2) n=cnt (gt o) n+news.length:=by
 refine Ok.foldI (all:=row) (fun pre s=>∃news,s.1=q++news∧s.2.length=n∧(∀x∈news,0≤x∧x<n∧gt s.2 x.toNat=true)∧(∀i,gt o i=true→gt s.2 i=true)∧(∀i,i<n→gt s.2 i=true→RT L n p i) ∧
   (∀i,i<pre.length→L a i=true→gt s.2 i=true)∧(∀i,i<n→gt s.2 i=true→gt o i=true∨(i:Int)∈news)∧cnt (gt s.2) n=cnt (gt o) n+news.length) row [] 0 _ rfl rfl ⟨[],by simp,ho,by simp,fun _ h=>h,hR,fun i hi=>by simp at hi,fun i _ h=>.inl h,by simp⟩ (fun pre x r s hw hs=>?_) fun s hs=>by rw [hr] at hs;exact hs
 obtain ⟨q',o'⟩:=s
 obtain ⟨news,rfl,h1,h2,h3,h4,h5,h6,h7⟩:=hs
 simp only at h1 h2 h3 h4 h5 h6 h7
 have hlen:pre.length<n:=by rw [←hr,hw];simp
 have hx:x=L a pre.length:=by rw [←hL _ hlen,hw];simp
 unfold F_1n
 have hi:inb (pre.length:Int) o'.length=true:=inb_iff.2 ⟨by omega,by omega⟩
 have hg:o'.getD (pre.length:Int).toNat default=gt o' pre.length:=by simp [gt]
 cases hxx:x with
 | false =>
  simp only [cond_false,jn,Option.bind_some]
  refine Ok.ret ⟨news,rfl,h1,h2,h3,h4,fun i hi' hl=>?_,h6,h7⟩
  simp only [List.length_append,List.length_singleton] at hi'
  by_cases e:i=pre.length
  ·subst e;rw [←hx,hxx] at hl;cases hl
  ·exact h5 i (by omega) hl
 | true =>
  have hla:L a pre.length=true:=by rw [←hx,hxx]
  simp only [cond_true,jn,chk_true hi,Option.bind_some,hg]
  cases hgo:gt o' pre.length with
  | true =>
   simp only [Bool.not_true,cond_false]
   refine Ok.ret ⟨news,rfl,h1,h2,h3,h4,fun i hi' hl=>?_,h6,h7⟩
   simp only [List.length_append,List.length_singleton] at hi'
   by_cases e:i=pre.length
   ·subst e;exact hgo
   ·exact h5 i (by omega) hl
  | false =>
   simp only [Bool.not_false,cond_true]
   have hc1:=cnt_le (gt o') n
   refine Ok.chk (room_smD (by simp;omega)) ?_
   have hset:∀i,gt (o'.set (pre.length:Int).toNat true) i=if i=pre.length then true else gt o' i:=fun i=>by
    have:=gt_set (o:=o') (k:=pre.length) (by omega) i
    simpa using this
   have hmono:∀i,gt o' i=true→gt (o'.set (pre.length:Int).toNat true) i=true:=fun i h=>by rw [hset];split<;>simp [h]
   refine Ok.ret ⟨news++[(pre.length:Int)],by simp,by simp [h1],fun y hy=>?_,fun i h=>hmono i (h3 i h),fun i hi' h=>?_,fun i hi' hl=>?_,fun i hi' h=>?_,?_⟩
   ·simp only [List.mem_append,List.mem_singleton] at hy
    rcases hy with hy|rfl
    ·obtain ⟨a1,a2,a3⟩:=h2 y hy
     exact ⟨a1,a2,hmono _ a3⟩
    ·exact ⟨by omega,by omega,by simp only [hset];simp⟩
   ·simp only [hset] at h
    by_cases e:i=pre.length
    ·subst e;exact .step hRa ha hlen hla
    ·rw [if_neg e] at h;exact h4 i hi' h
   ·simp only [List.length_append,List.length_singleton] at hi'
    by_cases e:i=pre.length
    ·simp only [hset,e,if_true]
    ·exact hmono i (h5 i (by omega) hl)
   ·simp only [hset] at h
    by_cases e:i=pre.length
    ·exact .inr (by simp [e])
    ·rw [if_neg e] at h
     rcases h6 i hi' h with h|h
     ·exact .inl h
     ·exact .inr (by simp [h])
   ·have:cnt (gt (o'.set (pre.length:Int).toNat true)) n=cnt (gt o') n+1:=by
     have key:∀m,cnt (gt (o'.set (pre.length:Int).toNat true)) m=cnt (gt o') m+(if pre.length<m then 1 else 0):=by
      intro m
      induction m with
      | zero=>simp [cnt]
      | succ m ih =>
       simp only [cnt,ih,hset]
       by_cases e:m=pre.length
       ·subst e;rw [hgo];simp
       ·rw [if_neg e]
        by_cases c:pre.length<m
        ·rw [if_pos c,if_pos (by omega)];omega
        ·rw [if_neg c,if_neg (by omega)];omega
     rw [key,if_pos hlen]
    simp only [this,List.length_append,List.length_singleton]
    omega
theorem upward_ok {L:Nat→Nat→Bool} {n p:Nat} (hn:n≤24) (hp:p<n) (T:List (List Bool)) (hT:T.length=n) (hrow:∀a,a<n→(T.getD a default).length=n∧∀i,i<n→(T.getD a default).getD i false=L a i) :
  Ok (F_10 T (p:Int)) fun o=>o.length=n∧∀i,i<n→(gt o i=true↔RT L n p i):=by
 unfold F_10
 rw [hT]
 have hl0:(List.replicate ((n:Int)).toNat false).length=n:=by simp
 refine Ok.chk (roomI_iff.2 ⟨by omega,by omega,by omega⟩) (Ok.chk (inb_iff.2 ⟨by omega,by rw [hl0];omega⟩) ?_)
 have hset:∀i,gt ((List.replicate ((n:Int)).toNat false).set ((p:Int)).toNat true) i=if i=p then true else gt (List.replicate n false) i:=fun i=>by
  have:=gt_set (o:=List.replicate n false) (k:=p) (by simpa using hp) i
  simpa using this
 have hrep:∀i,gt (List.replicate n false) i=false:=fun i=>by
  simp only [gt,List.getD_eq_getElem?_getD,List.getElem?_replicate]
  split<;>rfl
 refine Ok.bind (Ok.loop (Q:=fun o:List Bool=>o.length=n∧∀i,i<n→(gt o i=true↔RT L n p i))
  (fun (s:List Int×List Bool)=>s.2.length=n∧(∀x∈s.1,0≤x∧x<n∧gt s.2 x.toNat=true)∧(∀i,i<n→gt s.2 i=true→RT L n p i)∧gt s.2 p=true∧(∀a,a<n→gt s.2 a=true→(a:Int)∉s.1→∀b,b<n→L a b=true→gt s.2 b=true)∧s.1.length≤cnt (gt s.2) n)
  (fun (s:List Int×List Bool)=>2*(n - cnt (gt s.2) n)+s.1.length) (fun s hs=>?_) _ ?_) fun r hr=>Ok.ret hr
 ·obtain ⟨q,o⟩:=s
  obtain ⟨i1,i2,i3,i4,i5,i6⟩:=hs
  simp only at i1 i2 i3 i4 i5 i6
  unfold F_28
  have hcn:=cnt_le (gt o) n
  refine Ok.ite (fun cq=>?_) fun cq=>?_
  ·have cq:0<(q.length:Int):=by simpa using cq
   obtain ⟨q0,rest,rfl⟩:∃a r,q=a::r:=by
    cases q with
    | nil=>simp at cq
    | cons a r=>exact ⟨a,r,rfl⟩
   have e0:(q0::rest).getD 0 default=q0:=rfl
   obtain ⟨b1,b2,b3⟩:=i2 q0 (by simp)
   refine Ok.chk (inb_iff.2 ⟨by omega,cq⟩) ?_
   simp only [e0]
   have hqa:q0.toNat<n:=by omega
   obtain ⟨r1,r2⟩:=hrow q0.toNat hqa
   refine Ok.chk (inb_iff.2 ⟨by omega,by rw [hT];exact b2⟩) (Ok.bind (uprow_ok (p:=p) hn r1 hqa r2 (q0::rest) o i1 (by omega) i3 (i3 _ hqa b3)) fun s hs=>?_)
   obtain ⟨q',o'⟩:=s
   obtain ⟨news,hq',h1,h2,h3,h4,h5,h6,h7⟩:=hs
   simp only at hq' h1 h2 h3 h4 h5 h6 h7
   subst hq'
   have hcn':=cnt_le (gt o') n
   refine Ok.chk (inc_iff.2 ⟨by omega,by simp;omega,by omega⟩) (Ok.ret ?_)
   have e1:(((q0::rest)++news).drop 1).take (((q0::rest)++news).length - 1)=rest++news:=by
    simp only [List.cons_append,List.drop_succ_cons,List.drop_zero,List.length_cons,Nat.add_sub_cancel]
    exact List.take_length
   rw [e1]
   refine ⟨⟨h1,fun x hx=>?_,h4,h3 p i4,fun a ha hga hna b hb hl=>?_,?_⟩,?_⟩
   ·rcases List.mem_append.1 hx with hx|hx
    ·obtain ⟨c1,c2,c3⟩:=i2 x (by simp [hx])
     exact ⟨c1,c2,h3 _ c3⟩
    ·exact h2 x hx
   ·simp only [List.mem_append,not_or] at hna
    rcases h6 a ha hga with hoa|hnew
    ·by_cases e:(a:Int)=q0
     ·have:a=q0.toNat:=by omega
      subst this
      exact h5 b hb hl
     ·exact h3 b (i5 a ha hoa (by simp only [List.mem_cons,not_or];exact ⟨e,hna.1⟩) b hb hl)
    ·exact absurd hnew hna.2
   ·simp only [List.length_append,List.length_cons] at i6 ⊢
    omega
   ·show 2*(n - cnt (gt o') n)+(rest++news).length<2*(n - cnt (gt o) n)+(q0::rest).length
    simp only [List.length_append,List.length_cons] at i6 ⊢
    omega
  ·have:q=[]:=by
    have cq:¬0<(q.length:Int):=by simpa using cq
    exact List.length_eq_zero_iff.1 (by omega)
   subst this
   refine Ok.ret ⟨i1,fun i hi=>⟨i3 i hi,fun h=>?_⟩⟩
   induction h with
   | refl=>exact i4
   | step h ha hb hl ih=>exact i5 _ ha (ih ha) (by simp) _ hb hl
 ·refine ⟨by simp,fun x hx=>?_,fun i hi h=>?_,by simp only [hset,if_true],fun a ha h hna=>?_,?_⟩
  ·simp only [List.mem_singleton] at hx
   subst hx
   exact ⟨by omega,by omega,by simp only [hset];simp⟩
  ·simp only [hset,hrep] at h
   by_cases e:i=p
   ·subst e;exact .refl
   ·rw [if_neg e] at h;cases h
  ·simp only [hset,hrep] at h
   by_cases e:a=p
   ·subst e;simp at hna
   ·rw [if_neg e] at h;cases h
  ·exact cnt_pos (j:=p) (by simp only [hset,if_true]) n hp
end Go.Ab
namespace Go.Ab
open Go.Proofs
def dlk (d:GDirectory) (t:Int):Nat→Nat→Bool:=zk (ev4 (d.Events.map fun e=>(e.Time,e.Kind,e.Principal,e.Group))) t d.Events.length
open Classical in
noncomputable def upl (d:GDirectory) (p t:Int):List Int:=((List.range d.Kinds.length).filter fun i=>decide (RT (dlk d t) d.Kinds.length p.toNat i)).map fun i:Nat=>(i:Int)
theorem at_eq {d:GDirectory} (g:GoodD d) (t:Int):atF d.Kinds.length (d.Events.map fun e=>(e.Time,e.Kind,e.Principal,e.Group)) t=some ((List.range d.Kinds.length).map fun j=>(List.range d.Kinds.length).map fun i=>dlk d t j i):=by
 have hk:=g.kl
 unfold atF
 rw [chk_true (by simp;omega),chk_true]
 ·simp [dlk]
 ·simp only [List.all_eq_true,List.mem_map]
  rintro _ ⟨e,he,rfl⟩
  obtain ⟨_,_,_,h4,h5,_⟩:=g.ev e he
  have e1:inb e.Principal d.Kinds.length=true:=inb_iff.2 h4
  have e2:inb e.Group d.Kinds.length=true:=inb_iff.2 ⟨h5.1,h5.2.1⟩
  simp [e1,e2]
theorem those_eq (l:List Bool) (h:l.length≤24):F_1o l=some (((List.range l.length).filter (gt l)).map fun i:Nat=>(i:Int)):=by
 refine Ok.eq ?_
 unfold F_1o
 refine Ok.bind (Ok.foldI (all:=l) (fun pre s=>s=((List.range pre.length).filter (gt l)).map fun i:Nat=>(i:Int)) l [] 0 [] rfl rfl rfl (fun pre x r s hw hs=>?_) fun s hs=>hs) fun s hs=>Ok.ret hs
 subst hs
 unfold F_3e
 have hp:pre.length<l.length:=by rw [hw];simp
 have hx:gt l pre.length=x:=by rw [hw];simp [gt]
 have hlen:(((List.range pre.length).filter (gt l)).map fun i:Nat=>(i:Int)).length≤pre.length:=by
  rw [List.length_map];exact Nat.le_trans (List.length_filter_le _ _) (by simp)
 simp only [List.length_append,List.length_singleton,List.range_succ,List.filter_append,List.map_append]
 cases x
 ·simp only [cond_false]
  exact Ok.ret (by simp [hx])
 ·simp only [cond_true]
  exact Ok.chk (room_smD (by simp only [List.length_map] at hlen ⊢;omega)) (Ok.ret (by simp [hx]))
theorem upward_eq {d:GDirectory} (g:GoodD d) {p:Int} (t:Int) (h0:0≤p) (h1:p<d.Kinds.length):F_m d p t=some (upl d p t):=by
 have hk:decide (0≤p∧p<(d.Kinds.length:Int))=true:=decide_eq_true ⟨h0,h1⟩
 simp only [F_m,dknown_eq g,hk,Option.bind_some,Bool.not_true,cond_false,at_eq g]
 obtain ⟨o,ho,ho1,ho2⟩:=upward_ok (L:=dlk d t) (n:=d.Kinds.length) (p:=p.toNat) g.kl (by omega) ((List.range d.Kinds.length).map fun j=>(List.range d.Kinds.length).map fun i=>dlk d t j i) (by simp) fun a ha=>by
  have e:((List.range d.Kinds.length).map fun j=>(List.range d.Kinds.length).map fun i=>dlk d t j i).getD a default=(List.range d.Kinds.length).map fun i=>dlk d t a i:=by simp [List.getD_eq_getElem?_getD,ha]
  rw [e]
  exact ⟨by simp,fun i hi=>by simp [List.getD_eq_getElem?_getD,hi]⟩
 rw [show ((p.toNat:Nat):Int)=p by omega] at ho
 rw [ho]
 have hl:=g.kl
 simp only [Option.bind_some,those_eq o (by rw [ho1];exact hl)]
 simp only [upl,ho1]
 congr 2
 refine List.filter_congr fun i hi=>?_
 have:=ho2 i (List.mem_range.1 hi)
 cases e:gt o i with
 | true=>simp [this.1 e]
 | false =>
  have h:¬RT (dlk d t) d.Kinds.length p.toNat i:=fun h=>by rw [this.2 h] at e;cases e
  simp [h]
def rdr (d:GDirectory) (p:Int):Prop:=0≤p∧p<d.Kinds.length∧d.Kinds.getD p.toNat default≠2
theorem reader_eq (d:GDirectory) (p:Int) [Decidable (rdr d p)]:F_27 d p=some (decide (rdr d p)):=by
 simp only [F_27,grp,jn]
 by_cases c:0≤p∧p<(d.Kinds.length:Int)
 ·have e:(decide (0≤p)&&decide (p<(d.Kinds.length:Int)))=true:=by simpa using c
  simp only [e,cond_true,chk_true (inb_iff.2 c),Option.bind_some]
  congr 1
  by_cases q:d.Kinds.getD p.toNat default=2
  ·rw [decide_eq_true q,decide_eq_false (fun h:rdr d p=>h.2.2 q)];rfl
  ·rw [decide_eq_false q,decide_eq_true (show rdr d p from ⟨c.1,c.2,q⟩)];rfl
 ·have e:(decide (0≤p)&&decide (p<(d.Kinds.length:Int)))=false:=by
   cases h:(decide (0≤p)&&decide (p<(d.Kinds.length:Int)))
   ·rfl
   ·exact absurd (by simpa using h) c
  simp only [e,cond_false,Option.bind_some]
  rw [decide_eq_false (fun h:rdr d p=>c ⟨h.1,h.2.1⟩)]
open Classical in
theorem fine_eq {d:GDirectory} {a:GEstate} (g:GoodD d) (h:Good a) (p pl:Int):F_1l d a p pl=some (decide (rdr d p∧0≤pl∧pl≤a.Places - 1)):=by
 simp only [F_1l,F_e,dcheck_eq,check_eqA,if_pos g,if_pos h,Option.bind_some,jn,reader_eq,place_eqA a pl h.lo h.hi]
 by_cases c:rdr d p<;>simp [c]
theorem rgr_go (U:List Int):∀(xs:List Int) (k:Int),forL (F_1r U) xs k ()=some (match xs.find? (fun x=>decide (x∈U)) with|some x=>.ex (x,true)|none=>.nx ())
 | [],k=>rfl
 | x::r,k=>by
  simp only [forL,F_1r,dcont_eq,Option.bind_some,List.find?_cons]
  by_cases c:x∈U
  ·simp [c,Fl_ex]
  ·simp [c,Fl_nx,rgr_go U r (k+1)]
def fst0 (o:Option Int):Int×Bool:=match o with|some x=>(x,true)|none=>(0,false)
theorem rgrant_eq {d:GDirectory} {a:GEstate} {p pl t:Int} {U G:List Int} (h1:F_m d p t=some U) (h2:F_n a pl t=some G):F_11 d a p pl t=some (fst0 (G.find? fun x=>decide (x∈U))):=by
 simp only [F_11,h1,h2,Option.bind_some,rgr_go]
 cases G.find? (fun x=>decide (x∈U))<;>simp [fst0,Fl_nx,Fl_ex]
def mayP (d:GDirectory) (a:GEstate) (p pl t:Int):Prop :=
 (rdr d p∧0≤pl∧pl≤a.Places - 1)∧((lkf pl t a.Events 0 (0,false)).2=true∨∃x∈keysf pl t a.Events,x∈upl d p t)
open Classical in
theorem may_eq {d:GDirectory} {a:GEstate} (g:GoodD d) (h:Good a) (p pl t:Int):F_o d a p pl t=some (decide (mayP d a p pl t)):=by
 simp only [F_o,fine_eq g h,Option.bind_some,grp]
 by_cases c:rdr d p∧0≤pl∧pl≤a.Places - 1
 ·have hk:=known_of h c.2.1 c.2.2
  rw [linked_eq t hk,rgrant_eq (upward_eq g t c.1.1 c.1.2.1) (granted_eq t h.len hk)]
  simp only [decide_eq_true c,Bool.not_true,cond_false,Option.bind_some]
  congr 1
  by_cases q:∃x∈keysf pl t a.Events,x∈upl d p t
  ·have:(fst0 ((srtI (keysf pl t a.Events)).find? fun x=>decide (x∈upl d p t))).2=true:=by
    obtain ⟨x,hx,hu⟩:=q
    cases e:(srtI (keysf pl t a.Events)).find? fun x=>decide (x∈upl d p t) with
    | some y=>rfl
    | none =>
     have:=List.find?_eq_none.1 e x (srtI_mem.2 hx)
     simp [hu] at this
   rw [this,Bool.or_true]
   exact (decide_eq_true (show mayP d a p pl t from ⟨c,.inr q⟩)).symm
  ·have:(fst0 ((srtI (keysf pl t a.Events)).find? fun x=>decide (x∈upl d p t))).2=false:=by
    cases e:(srtI (keysf pl t a.Events)).find? fun x=>decide (x∈upl d p t) with
    | none=>rfl
    | some y =>
     refine absurd ⟨y,srtI_mem.1 (List.mem_of_find?_eq_some e),?_⟩ q
     have:=List.find?_some e
     simpa using this
   rw [this,Bool.or_false]
   cases e:(lkf pl t a.Events 0 (0,false)).2 with
   | true=>exact (decide_eq_true (show mayP d a p pl t from ⟨c,.inl e⟩)).symm
   | false =>
    refine (decide_eq_false fun hm:mayP d a p pl t=>?_).symm
    rcases hm.2 with h|h
    ·rw [e] at h;cases h
    ·exact q h
 ·simp only [decide_eq_false c,Bool.not_false,cond_true]
  congr 1
  exact (decide_eq_false fun hm:mayP d a p pl t=>c hm.1).symm
end Go.Ab
namespace Go.Ab
open Go.Proofs
theorem compactUpTo_memG (d:Array Int):∀(m i:Nat),i<m→d[i]! ∈ Go.Lib.compactUpTo d m
 | 0,i,h=>by omega
 | m + 1,i,h=>by
  rw [Go.Lib.compactUpTo_succ,List.mem_append]
  rcases Nat.lt_or_ge i m with h1|h1
  ·exact .inl (compactUpTo_memG d m i h1)
  ·have e:i=m:=by omega
   subst e
   cases hk:Go.Lib.keeps d i with
   | true=>right;simp [hk]
   | false =>
    left
    cases i with
    | zero=>simp [Go.Lib.keeps] at hk
    | succ i =>
     have h2:d[i+1]! = d[i]! := by
      by_cases c:d[i+1]! = d[i]!
      ·exact c
      ·have:=Go.Lib.keeps_pos (d:=d) (m:=i+1) (by simpa using c)
       rw [hk] at this;cases this
     rw [h2]
     exact compactUpTo_memG d (i+1) i (by omega)
theorem compact_allG (xs:List Int):∀x∈xs,x∈Go.Lib.compact xs:=by
 intro x hx
 obtain ⟨i,hi,rfl⟩:=List.mem_iff_getElem.1 hx
 have:=compactUpTo_memG xs.toArray xs.length i hi
 simpa [Go.Lib.compact,hi] using this
theorem compact_iff {xs:List Int} {x:Int}:x∈Go.Lib.compact xs↔x∈xs:=⟨compact_mem xs x,compact_allG xs x⟩
theorem compact_sub (xs:List Int):(Go.Lib.compact xs).Sublist xs:=by
 have h:(List.range xs.length).map (fun i=>xs.toArray[i]!)=xs:=by
  apply List.ext_getElem
  ·simp
  ·intro i h1 h2
   simp [h2]
 have:=(List.filter_sublist (p:=Go.Lib.keeps xs.toArray) (l:=List.range xs.length)).map (fun i=>xs.toArray[i]!)
 rw [h] at this
 exact this
theorem times_eqG {a:GEstate} (g:Good a):F_1u a=some (Go.Lib.compact (a.Events.map GAccess.Time)):=by
 simp only [F_1u,check_eqA,if_pos g,Option.bind_some,decide_true,Bool.not_true,cond_false]
 have h:=g.len
 rw [foldL_push (body:=F_2a) (g:=GAccess.Time) (b:=8) (n:=120) (by omega) (fun k x s=>rfl) a.Events 0 [] (by simpa using h)]
 simp only [Option.bind_some,compactI,List.nil_append,List.drop_zero]
 rw [List.take_left']
 rfl
def tms (d:GDirectory) (a:GEstate):List Int:=Go.Lib.compact (srtI (Go.Lib.compact (a.Events.map GAccess.Time)++d.Events.map GMember.Time))
theorem mem_tms {d:GDirectory} {a:GEstate} {t:Int}:t∈tms d a↔(∃x∈a.Events,x.Time=t)∨∃x∈d.Events,x.Time=t:=by
 simp only [tms,compact_iff,srtI_mem,List.mem_append,List.mem_map]
theorem etimes_eq {d:GDirectory} {a:GEstate} (g:GoodD d) (h:Good a):F_14 d a=some (tms d a):=by
 have h1:=h.len
 have h2:=g.el
 have h3:=(compact_sub (a.Events.map GAccess.Time)).length_le
 rw [List.length_map] at h3
 simp only [F_14,times_eqG h,Option.bind_some]
 rw [foldL_push (body:=F_13) (g:=GMember.Time) (b:=8) (n:=240) (by omega) (fun k x s=>rfl) d.Events 0 _ (by omega)]
 simp only [Option.bind_some,sortI,List.length_append,List.length_map]
 rw [if_pos (by omega)]
 simp only [Option.bind_some,compactI,List.drop_zero]
 rw [List.take_left']
 ·rfl
 ·rfl
theorem bit_eq {c:Int} (h0:0≤c) (h1:c≤63):F_15 c=some (IntKind.wrap .u64 (1*2^c.toNat)):=by
 unfold F_15
 have:shok c 64=true:=by rw [←shok_and64];omega
 rw [chk_true this]
theorem happen_ok {P:Int} {s:List Int} {x:GAccess} (h:xok P x) (hs:(s.length:Int)=P):Ok (F_16 s x) fun s'=>s'.length=s.length:=by
 obtain ⟨_,_,h3,h4,h5⟩:=h
 have hp:inb x.Place s.length=true:=inb_iff.2 ⟨h3,by omega⟩
 unfold F_16
 refine Ok.ite (fun c=>?_) fun c=>Ok.ite (fun c2=>?_) fun c2=>Ok.ite (fun c3=>?_) fun c3=>Ok.ret rfl
 ·have c:x.Kind=5:=by simpa using c
  exact Ok.chk hp (Ok.bind (P:=fun _=>True) (Ok.of (bit_eq (by omega) (by omega)) trivial) fun _ _=>Ok.chk hp (Ok.ret (by simp)))
 ·have c2:x.Kind=6:=by simpa using c2
  exact Ok.chk hp (Ok.bind (P:=fun _=>True) (Ok.of (bit_eq (by omega) (by omega)) trivial) fun _ _=>Ok.chk hp (Ok.ret (by simp)))
 ·have c3:x.Kind=7:=by simpa using c3
  have hf:inb x.From s.length=true:=inb_iff.2 ⟨by omega,by omega⟩
  exact Ok.chk hp (Ok.chk hf (Ok.chk hp (Ok.ret (by simp))))
theorem cat_ok {a:GEstate} (g:Good a) (t:Int):Ok (F_2c a t) fun s=>(s.length:Int)=a.Places:=by
 have h1:=g.lo
 have h2:=g.hi
 unfold F_2c
 refine Ok.chk (roomI_iff.2 ⟨by omega,by omega,by omega⟩) (Ok.bind (Ok.foldI (all:=a.Events) (fun _ s=>(s.length:Int)=a.Places) a.Events [] 0 _ rfl rfl (by simp;omega) (fun pre x r s hw hs=>?_) fun s hs=>hs) fun s hs=>Ok.ret hs)
 unfold F_2b
 refine Ok.ite (fun _=>Ok.bind (happen_ok (g.ev x (by rw [hw];simp)) hs) fun y hy=>Ok.ret ?_) fun _=>Ok.ret hs
 rw [hy];exact hs
theorem where_ok {a:GEstate} (g:Good a) {c:Int} (h0:0≤c) (h1:c≤63) (t:Int):Ok (F_p a c t) fun W=>∀x∈W,0≤x∧x≤a.Places - 1:=by
 have hc:F_a c=some true:=by simp [F_a,among_eqA,h0,h1]
 have h2:=g.hi
 simp only [F_p,check_eqA,if_pos g,Option.bind_some,decide_true,Bool.not_true,cond_false,hc]
 refine Ok.bind (cat_ok g t) fun s hs=>Ok.bind (Ok.foldI (all:=s) (fun pre W=>W.length≤pre.length∧∀x∈W,0≤x∧x≤a.Places - 1) s [] 0 _ rfl rfl ⟨by simp,by simp⟩ (fun pre x r W hw hW=>?_) fun W hW=>hW.2) fun W hW=>Ok.ret hW
 unfold F_3g
 have hp:pre.length<s.length:=by rw [hw];simp
 refine Ok.bind (P:=fun _=>True) (Ok.of (bit_eq h0 h1) trivial) fun b _=>Ok.ite (fun _=>Ok.chk (room_smD (by simp;omega)) (Ok.ret ⟨by simp;omega,fun y hy=>?_⟩)) fun _=>Ok.ret ⟨by simp;omega,hW.2⟩
 simp only [List.mem_append,List.mem_singleton] at hy
 rcases hy with hy|rfl
 ·exact hW.2 y hy
 ·omega
def whr (a:GEstate) (c t:Int):List Int:=(F_p a c t).getD []
theorem where_eq {a:GEstate} (g:Good a) {c:Int} (h0:0≤c) (h1:c≤63) (t:Int):F_p a c t=some (whr a c t):=by
 obtain ⟨W,h,_⟩:=where_ok g h0 h1 t
 simp [whr,h]
theorem whr_mem {a:GEstate} (g:Good a) {c:Int} (h0:0≤c) (h1:c≤63) (t:Int):∀x∈whr a c t,0≤x∧x≤a.Places - 1:=(where_ok g h0 h1 t).val (where_eq g h0 h1 t)
open Classical in
noncomputable def see (d:GDirectory) (a:GEstate) (p t x:Int):Bool :=
 if p=-1 then (lkf x t a.Events 0 (0,false)).2 else decide (mayP d a p x t)
theorem plgo {d:GDirectory} {a:GEstate} (g:GoodD d) (h:Good a) (p t:Int) (xs:List Int) (hx:∀x∈xs,0≤x∧x≤a.Places - 1) (k:Int) :
  forL (F_1v d a p t) xs k ()=some (flO (findL (fun x=>if see d a p t x then some (x,true) else none) xs)):=by
 refine forL_find _ xs k fun k x hm=>?_
 simp only [F_1v,linked_eq t (known_of h (hx x hm).1 (hx x hm).2),Option.bind_some,grp,may_eq g h]
 by_cases c:p=-1
 ·simp only [c,decide_true,Bool.true_and,Bool.not_true,cond_false,see,if_true]
  cases (lkf x t a.Events 0 (0,false)).2<;>simp [flO]
 ·simp only [c,decide_false,Bool.false_and,Bool.not_false,cond_false,cond_true,see,if_false]
  by_cases q:mayP d a p x t<;>simp [q,flO]
theorem findL_find {α ρ:Type} (p:α→Bool) (f:α→ρ):∀xs:List α,findL (fun x=>if p x then some (f x) else none) xs=(xs.find? p).map f
 | []=>rfl
 | x::r=>by
  simp only [findL,List.find?_cons]
  cases h:p x with
  | true=>simp
  | false=>simp [findL_find p f r]
noncomputable def pla (d:GDirectory) (a:GEstate) (c p t:Int):Option Int:=(whr a c t).find? (see d a p t)
theorem place_eqX {d:GDirectory} {a:GEstate} (g:GoodD d) (h:Good a) {c:Int} (h0:0≤c) (h1:c≤63) (p t:Int):F_17 d a c p t=some (fst0 (pla d a c p t)):=by
 simp only [F_17,where_eq h h0 h1,Option.bind_some,plgo g h p t _ (whr_mem h h0 h1 t),elim_flO,findL_find,pla]
 cases (whr a c t).find? (see d a p t)<;>rfl
noncomputable def sin (d:GDirectory) (a:GEstate) (c p:Int):Option Int:=(tms d a).find? fun t=>(pla d a c p t).isSome
theorem since_eq {d:GDirectory} {a:GEstate} (g:GoodD d) (h:Good a) {c:Int} (h0:0≤c) (h1:c≤63) (p:Int):F_18 d a c p=some (fst0 (sin d a c p)):=by
 simp only [F_18,etimes_eq g h,Option.bind_some]
 rw [forL_find (fun t=>if (pla d a c p t).isSome then some (t,true) else none) (tms d a) 0 fun k t _=>by
  simp only [F_2d,place_eqX g h h0 h1,Option.bind_some]
  cases pla d a c p t<;>simp [fst0,flO]]
 simp only [Option.bind_some,elim_flO,findL_find,sin]
 cases (tms d a).find? (fun t=>(pla d a c p t).isSome)<;>rfl
theorem echeck_eq {d:GDirectory} {a:GEstate} (g:GoodD d) (h:Good a) {c:Int} (h0:0≤c) (h1:c≤63):F_1t d a c=some 0:=by
 simp [F_1t,F_e,dcheck_eq,check_eqA,g,h,F_a,among_eqA,h0,h1]
theorem Since_eq {d:GDirectory} {a:GEstate} (g:GoodD d) (h:Good a) {c:Int} (h0:0≤c) (h1:c≤63) (p:Int):F_q d a c p=some (fst0 (sin d a c p)):=by
 simp [F_q,echeck_eq g h h0 h1,since_eq g h h0 h1]
end Go.Ab
namespace Go.Ab
open Go.Proofs
end Go.Ab
namespace Go.Ab
open Go.Proofs
def cutA (a:GEstate) (t:Int):GEstate:=⟨a.Places,a.Events.filter fun x=>decide (x.Time≤t)⟩
def cutD (d:GDirectory) (t:Int):GDirectory:=⟨d.Kinds,d.Events.filter fun x=>decide (x.Time≤t)⟩
theorem Good.cut {a:GEstate} (g:Good a) (t:Int):Good (cutA a t):=g.sub List.filter_sublist
theorem GoodD.cut {d:GDirectory} (g:GoodD d) (t:Int):GoodD (cutD d t) :=
 ⟨g.kl,Nat.le_trans (List.length_filter_le _ _) g.el,g.kd,fun x hx=>g.ev x (List.mem_filter.1 hx).1,g.srt.sublist List.filter_sublist⟩
end Go.Ab
namespace Go.Ab
open Go.Proofs
open Classical in
noncomputable def mays (d:GDirectory) (a:GEstate) (pl t:Int):List Int:=((List.range d.Kinds.length).filter fun i:Nat=>decide (mayP d a i pl t)).map fun i:Nat=>(i:Int)
theorem mem_mays {d:GDirectory} {a:GEstate} {pl t x:Int}:x∈mays d a pl t↔mayP d a x pl t:=by
 simp only [mays,List.mem_map,List.mem_filter,List.mem_range,decide_eq_true_eq]
 constructor
 ·rintro ⟨i,⟨_,h⟩,rfl⟩;exact h
 ·intro h
  obtain ⟨h0,h1,_⟩:=h.1.1
  exact ⟨x.toNat,⟨by omega,by rw [Int.toNat_of_nonneg h0];exact h⟩,Int.toNat_of_nonneg h0⟩
theorem who_eq {d:GDirectory} {a:GEstate} (g:GoodD d) (h:Good a) {pl:Int} (t:Int) (h0:0≤pl) (h1:pl≤a.Places - 1):F_12 d a pl t=some (⟨(lkf pl t a.Events 0 (0,false)).2,mays d a pl t⟩,0):=by
 have hk:=g.kl
 classical
 have e:foldL (F_1s d a pl t) d.Kinds 0 ((lkf pl t a.Events 0 (0,false)).2,[])=some ((lkf pl t a.Events 0 (0,false)).2,mays d a pl t):=by
  refine Ok.eq (Ok.foldI (all:=d.Kinds) (fun pre s=>s=((lkf pl t a.Events 0 (0,false)).2,((List.range pre.length).filter fun i:Nat=>decide (mayP d a i pl t)).map fun i:Nat=>(i:Int))) d.Kinds [] 0 _ rfl rfl rfl (fun pre x r s hw hs=>?_) fun s hs=>hs)
  subst hs
  have hp:pre.length<d.Kinds.length:=by rw [hw];simp
  have hlen:(((List.range pre.length).filter fun i:Nat=>decide (mayP d a i pl t)).map fun i:Nat=>(i:Int)).length≤pre.length:=by
   rw [List.length_map];exact Nat.le_trans (List.length_filter_le _ _) (by simp)
  unfold F_1s
  rw [may_eq g h]
  simp only [Option.bind_some,List.length_append,List.length_singleton,List.range_succ,List.filter_append,List.map_append]
  by_cases c:mayP d a (pre.length:Int) pl t
  ·rw [decide_eq_true c,cond_true]
   refine Ok.chk (room_smD (by omega)) (Ok.ret ?_)
   simp [c]
  ·rw [decide_eq_false c,cond_false]
   refine Ok.ret ?_
   simp [c]
 simp only [F_12,F_e,dcheck_eq,check_eqA,if_pos g,if_pos h,Option.bind_some,decide_true,Bool.not_true,cond_false,place_eqA a pl h.lo h.hi,decide_eq_true (show 0≤pl∧pl≤a.Places - 1 from ⟨h0,h1⟩),linked_eq t (known_of h h0 h1),e]
def grpP (d:GDirectory) (q:Int):Prop:=0≤q∧q<d.Kinds.length∧d.Kinds.getD q.toNat default=2
instance (d:GDirectory) (q:Int):Decidable (grpP d q):=inferInstanceAs (Decidable (_∧_∧_))
def d1:GDirectory:=⟨[1,2],[⟨0,1,0,1⟩]⟩
def a1:GEstate:=⟨1,[⟨0,1,0,1,0,0,0⟩]⟩
end Go.Ab
