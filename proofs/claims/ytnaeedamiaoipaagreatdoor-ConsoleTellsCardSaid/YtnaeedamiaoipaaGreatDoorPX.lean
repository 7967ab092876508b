/- Chapter 27: what the functions of access answer, in plain words. -/
import Derived.Test.YtnaeedamiaoipaaGreatDoorLC
import Derived.Test.YtnaeedamiaoipaaGreatDoorAbMC
set_option linter.all false
set_option linter.all false
namespace Go.Ab
open Go.Proofs
def xok (P:Int) (x:GAccess):Prop :=
 0≤x.Time∧x.Time≤1099511627776∧0≤x.Place∧x.Place≤P - 1 ∧
 ((x.Kind=1∨x.Kind=2)∧0≤x.Principal∧x.Principal≤23∧x.Until=0∧x.Content=0∧x.From=0 ∨
  x.Kind=3∧x.Time<x.Until∧x.Until≤1099511627776∧x.Principal=0∧x.Content=0∧x.From=0 ∨
  x.Kind=4∧x.Principal=0∧x.Until=0∧x.Content=0∧x.From=0 ∨
  (x.Kind=5∨x.Kind=6)∧0≤x.Content∧x.Content≤63∧x.Principal=0∧x.Until=0∧x.From=0 ∨
  x.Kind=7∧0≤x.From∧x.From≤P - 1∧x.From≠x.Place∧x.Principal=0∧x.Until=0∧x.Content=0)
structure Good (a:GEstate):Prop where
 lo:1≤a.Places
 hi:a.Places≤16
 len:a.Events.length≤120
 ev:∀x∈a.Events,xok a.Places x
 srt:a.Events.Pairwise fun x y=>x.Time≤y.Time
theorem among_eqA (n lo hi:Int):F_d n lo hi=some (decide (lo≤n∧n≤hi)):=by
 simp [F_d,grp]
theorem in64_sm {n:Int} (h1:-1000000000000000≤n) (h2:n≤1000000000000000):in64 n=true:=in64_iff.2 ⟨by omega,by omega⟩
theorem place_eqA (a:GEstate) (p:Int) (h1:1≤a.Places) (h2:a.Places≤16):F_6 a p=some (decide (0≤p∧p≤a.Places - 1)):=by
 simp [F_6,among_eqA,chk_true (in64_sm (n:=a.Places - 1) (by omega) (by omega))]
theorem right_eqA (a:GEstate) (x:GAccess) (h1:1≤a.Places) (h2:a.Places≤16) (h0:0≤x.Time) (hm:x.Time≤1099511627776):∃b,F_14 a x=some b∧(b=true↔xok a.Places x):=by
 obtain ⟨T,K,P,pr,U,C,F⟩:=x
 simp only at h0 hm
 simp only [F_14,among_eqA,place_eqA a _ h1 h2,F_5,jn,grp,xV,Option.bind_eq_bind]
 by_cases k1:K=1
 ·subst k1
  by_cases c1:0≤pr<;>by_cases c2:pr≤23<;>simp [xok,c1,c2]<;>omega
 by_cases k2:K=2
 ·subst k2
  by_cases c1:0≤pr<;>by_cases c2:pr≤23<;>simp [xok,c1,c2]<;>omega
 by_cases k3:K=3
 ·subst k3
  by_cases c:T<U<;>by_cases c2:U≤1099511627776<;>simp [xok,c,c2]<;>omega
 by_cases k4:K=4
 ·subst k4
  simp [xok]
  omega
 by_cases k5:K=5
 ·subst k5
  by_cases c1:0≤C<;>by_cases c2:C≤63<;>simp [xok,c1,c2]<;>omega
 by_cases k6:K=6
 ·subst k6
  by_cases c1:0≤C<;>by_cases c2:C≤63<;>simp [xok,c1,c2]<;>omega
 by_cases k7:K=7
 ·subst k7
  by_cases c1:0≤F<;>by_cases c2:F≤a.Places - 1<;>by_cases c3:F=P<;>simp [xok,c1,c2,c3]<;>omega
 ·simp [xok,k1,k2,k3,k4,k5,k6,k7]
def chain (P:Int):Int→List GAccess→Prop
 | _,[]=>True
 | last,x::r=>last≤x.Time∧xok P x∧chain P x.Time r
theorem chain_iff {P:Int}:∀{l:List GAccess} {last:Int},chain P last l↔((∀x∈l,last≤x.Time∧xok P x)∧l.Pairwise fun x y=>x.Time≤y.Time)
 | [],last=>by simp [chain]
 | x::r,last=>by
  simp only [chain,chain_iff (l:=r),wP,List.pairwise_cons]
  constructor
  ·rintro ⟨h1,h2,h3,h4⟩
   refine ⟨fun y hy=>?_,fun y hy=>(h3 y hy).1,h4⟩
   rcases hy with rfl|hy
   ·exact ⟨h1,h2⟩
   ·exact ⟨Int.le_trans h1 (h3 y hy).1,(h3 y hy).2⟩
  ·rintro ⟨h1,h2,h3⟩
   exact ⟨(h1 x (.inl rfl)).1,(h1 x (.inl rfl)).2,fun y hy=>⟨h2 y hy,(h1 y (.inr hy)).2⟩,h3⟩
open Classical in
theorem chkL_eq (a:GEstate) (h1:1≤a.Places) (h2:a.Places≤16):∀(l:List GAccess) (k last:Int),0≤last→∃o,forL (F_15 a) l k last=some o∧(chain a.Places last l→∃s,o=.nx s)∧(¬chain a.Places last l→o=.ex 34)
 | [],k,last,h=>⟨.nx last,rfl,fun _=>⟨_,rfl⟩,fun hc=>absurd trivial hc⟩
 | x::r,k,last,h=>by
  simp only [forL,F_15,grp,chain]
  by_cases c:x.Time<last∨1099511627776<x.Time
  ·have c':(decide (x.Time<last)||decide (1099511627776<x.Time))=true:=by simpa using c
   simp only [c',vE,xV,Fl_ex]
   refine ⟨_,rfl,fun hc=>?_,fun _=>rfl⟩
   have:=hc.2.1.2.1
   omega
  ·have c':(decide (x.Time<last)||decide (1099511627776<x.Time))=false:=by simpa using c
   obtain ⟨b,hb,hb2⟩:=right_eqA a x h1 h2 (by omega) (by omega)
   simp only [c',vC,hb,xV]
   cases b with
   | false =>
    simp only [wN,vE,xV,Fl_ex]
    refine ⟨_,rfl,fun hc=>?_,fun _=>rfl⟩
    have:=hb2.2 hc.2.1
    cases this
   | true =>
    simp only [wR,vC,xV,Fl_nx]
    obtain ⟨o,ho,ho1,ho2⟩:=chkL_eq a h1 h2 r (k+1) x.Time (by omega)
    refine ⟨o,ho,fun hc=>ho1 hc.2.2,fun hc=>ho2 fun h3=>hc ⟨by omega,hb2.1 rfl,h3⟩⟩
theorem good_iff (a:GEstate):Good a↔(1≤a.Places∧a.Places≤16)∧a.Events.length≤120∧chain a.Places 0 a.Events:=by
 rw [chain_iff]
 constructor
 ·rintro ⟨h1,h2,h3,h4,h5⟩
  exact ⟨⟨h1,h2⟩,h3,fun x hx=>⟨(h4 x hx).1,h4 x hx⟩,h5⟩
 ·rintro ⟨⟨h1,h2⟩,h3,h4,h5⟩
  exact ⟨h1,h2,h3,fun x hx=>(h4 x hx).2,h5⟩
open Classical in
theorem check_eqA (a:GEstate):F_3 a=some (if Good a then 0 else 34):=by
 simp only [F_3,among_eqA,xV,grp]
 by_cases c:1≤a.Places∧a.Places≤16
 ·by_cases c2:a.Events.length≤120
  ·have c':(!decide (1≤a.Places∧a.Places≤16)||decide (120<(a.Events.length:Int)))=false:=by simp [c];omega
   obtain ⟨o,ho,ho1,ho2⟩:=chkL_eq a c.1 c.2 a.Events 0 0 (vB 0)
   simp only [c',vC,ho,xV]
   by_cases hc:chain a.Places 0 a.Events
   ·obtain ⟨s,rfl⟩:=ho1 hc
    have:Good a:=(good_iff a).2 ⟨c,c2,hc⟩
    simp [this,Fl_nx]
   ·rw [ho2 hc]
    have:¬Good a:=fun h=>hc ((good_iff a).1 h).2.2
    simp [this,Fl_ex]
  ·have c':(!decide (1≤a.Places∧a.Places≤16)||decide (120<(a.Events.length:Int)))=true:=by simp;omega
   have:¬Good a:=fun h=>c2 h.len
   simp only [c',vE,if_neg this]
 ·have:¬Good a:=fun h=>c ⟨h.lo,h.hi⟩
  simp [c,this]
open Classical in
theorem known_eq (a:GEstate) (p:Int):F_1 a p=some (decide (Good a∧0≤p∧p≤a.Places - 1)):=by
 simp only [F_1,check_eqA,xV,jn]
 by_cases h:Good a
 ·simp [h,place_eqA a p h.lo h.hi]
 ·simp [h]
theorem known_of {a:GEstate} {p:Int} (h:Good a) (h1:0≤p) (h2:p≤a.Places - 1):F_1 a p=some true:=by
 rw [known_eq];simp [h,h1];omega
theorem Good.sub {a:GEstate} (h:Good a) {l:List GAccess} (hl:l.Sublist a.Events):Good ⟨a.Places,l⟩ :=
 ⟨h.lo,h.hi,wX hl.length_le h.len,fun x hx=>h.ev x (hl.subset hx),h.srt.sublist hl⟩
def lst (p t:Int) (i:Int) (x:GAccess) (s:Int×Bool):Int×Bool :=
 if t<x.Time∨x.Place≠p then s else if x.Kind=4 then (0,false) else if x.Kind=3∧t<x.Until then (i,true) else s
def lkf (p t:Int):List GAccess→Int→Int×Bool→Int×Bool
 | [],_,s=>s
 | x::r,i,s=>lkf p t r (i+1) (lst p t i x s)
theorem lkf_append (p t:Int):∀(l m:List GAccess) (i:Int) (s:Int×Bool),lkf p t (l++m) i s=lkf p t m (i+l.length) (lkf p t l i s)
 | [],m,i,s=>by simp [lkf]
 | x::r,m,i,s=>by
  simp only [x3,lkf,lkf_append p t r m]
  congr 1
  simp;omega
def lfind (p t:Int) (y:Int×GAccess):Option (Int×Bool) :=
 if t<y.2.Time∨y.2.Place≠p then none else if y.2.Kind=4 then some (0,false) else if y.2.Kind=3∧t<y.2.Until then some (y.1,true) else none
theorem link_body (p t k:Int) (y:Int×GAccess):F_4w p t k y ()=some (flO (lfind p t y)):=by
 simp only [F_4w,grp,lfind]
 by_cases c:t<y.2.Time∨y.2.Place≠p
 ·have c':(decide (t<y.2.Time)||!decide (y.2.Place=p))=true:=by simpa using c
  simp [c',c,flO]
 ·have c':(decide (t<y.2.Time)||!decide (y.2.Place=p))=false:=by simpa using c
  simp only [c',vC,if_neg c]
  by_cases c2:y.2.Kind=4
  ·simp [c2,flO]
  ·by_cases c3:y.2.Kind=3∧t<y.2.Until
   ·simp [c2,c3,flO]
   ·have c4:(decide (y.2.Kind=3)&&decide (t<y.2.Until))=false:=by simpa using c3
    rw [if_neg c2,if_neg c3]
    simp [c2,c4,flO]
theorem revp_snoc (l:List GAccess) (x:GAccess):revp (l++[x])=((l.length:Int),x)::revp l:=by
 unfold revp
 rw [xG,zU,List.range_succ_eq_map]
 simp only [wQ,List.map_map]
 congr 1
 ·simp
 ·refine List.map_congr_left fun k hk=>?_
  have:=List.mem_range.1 hk
  simp only [Function.comp]
  have e:l.length+1 - 1 - (k+1)=l.length - 1 - k:=by omega
  rw [show k.succ=k+1 from rfl,e,zE,zE,zH (by omega)]
theorem revList_ind {α:Type} {m:List α→Prop} (h0:m []) (h1:∀l x,m l→m (l++[x])) (l:List α):m l:=by
 have:∀n (l:List α),l.length=n→m l:=by
  intro n
  induction n with
  | zero=>intro l hl;rw [zM.1 hl];exact h0
  | succ n ih =>
   intro l hl
   have hne:l≠[]:=by intro e;simp [e] at hl
   rw [←List.dropLast_concat_getLast hne]
   exact h1 _ _ (ih _ (by simp [hl]))
 exact this _ l rfl
theorem find_lkf (p t:Int) (l:List GAccess):(findL (lfind p t) (revp l)).getD (0,false)=lkf p t l 0 (0,false):=by
 induction l using revList_ind with
 | h0=>rfl
 | h1 l x ih =>
  rw [revp_snoc,lkf_append]
  simp only [findL,lkf,Int.zero_add]
  rw [←ih]
  unfold lfind lst
  by_cases c:t<x.Time∨x.Place≠p
  ·simp only [if_pos c]
  ·simp only [if_neg c]
   by_cases c2:x.Kind=4
   ·simp [c2]
   ·by_cases c3:x.Kind=3∧t<x.Until
    ·simp [c2,c3]
    ·simp only [if_neg c2,if_neg c3]
theorem linked_eq {a:GEstate} {p:Int} (t:Int) (h:F_1 a p=some true):F_4 a p t=some (lkf p t a.Events 0 (0,false)):=by
 simp only [F_4,h,xV,wR,vC,backF]
 rw [forL_find (lfind p t) (revp a.Events) 0 fun k y _=>link_body p t k y,←find_lkf]
 cases findL (lfind p t) (revp a.Events)<;>rfl
theorem linked_no {a:GEstate} {p:Int} (t:Int) (h:F_1 a p=some false):F_4 a p t=some (0,false):=by
 simp [F_4,h]
end Go.Ab
namespace Go.Ab
open Go.Proofs
def foldP {α σ:Type} (f:Int→α→σ→σ):List α→Int→σ→σ
 | [],_,s=>s
 | x::r,k,s=>foldP f r (k+1) (f k x s)
theorem foldL_plain {α σ:Type} {body:Int→α→σ→Option σ} (f:Int→α→σ→σ) (h:∀k x s,body k x s=some (f k x s)):∀(xs:List α) (k:Int) (s:σ),foldL body xs k s=some (foldP f xs k s)
 | [],k,s=>rfl
 | x::r,k,s=>by simp only [foldL,h,xV,foldP,foldL_plain f h r]
theorem foldP_append {α σ:Type} (f:Int→α→σ→σ):∀(xs ys:List α) (k:Int) (s:σ),foldP f (xs++ys) k s=foldP f ys (k+xs.length) (foldP f xs k s)
 | [],ys,k,s=>by simp [foldP]
 | x::r,ys,k,s=>by
  simp only [x3,foldP,foldP_append f r ys]
  congr 1
  simp;omega
theorem foldL_push {α β:Type} {body:Int→α→List β→Option (List β)} (g:α→β) (b:Nat) (n:Nat) (hn:n*b≤140737488355328) (h:∀k x s,body k x s=chk (room (s.length+[g x].length) b) (some (s++[g x]))) :
  ∀(xs:List α) (k:Int) (s:List β),s.length+xs.length≤n→foldL body xs k s=some (s++xs.map g)
 | [],k,s,hl=>by simp [foldL]
 | x::r,k,s,hl=>by
  have:room (s.length+[g x].length) b=true:=room_iff.2 (by
   simp at hl ⊢
   exact wX (zY b (by omega)) hn)
  simp only [foldL,h,chk_true this,xV]
  rw [foldL_push g b n hn h r (k+1) _ (by simp at hl ⊢;omega)]
  simp
def gst (p t:Int) (i:Int) (x:GAccess) (m:List (Int×Int)):List (Int×Int) :=
 if t<x.Time∨x.Place≠p then m else if x.Kind=1 then aput x.Principal i m else if x.Kind=2 then adel x.Principal m else m
def grf (p t:Int) (l:List GAccess):List (Int×Int):=foldP (gst p t) l 0 []
theorem gst_body (p t k:Int) (x:GAccess) (m:List (Int×Int)):F_3n p t k x m=some (gst p t k x m):=by
 simp only [F_3n,grp,gst]
 by_cases c:t<x.Time∨x.Place≠p
 ·have c':(decide (t<x.Time)||!decide (x.Place=p))=true:=by simpa using c
  simp [c',c]
 ·have c':(decide (t<x.Time)||!decide (x.Place=p))=false:=by simpa using c
  simp only [c',vC,if_neg c]
  by_cases c2:x.Kind=1
  ·simp [c2]
  ·by_cases c3:x.Kind=2<;>simp [c2,c3]
theorem grants_eq (a:GEstate) (p t:Int):F_1z a p t=some (grf p t a.Events):=by
 simp only [F_1z,foldL_plain (gst p t) (gst_body p t),xV,grf]
theorem keys_aput (k v:Int):∀m:List (Int×Int),(aput k v m).map Prod.fst=if k∈m.map Prod.fst then m.map Prod.fst else m.map Prod.fst++[k]
 | []=>by simp [aput]
 | (a,b)::r=>by
  by_cases e:k=a
  ·simp [aput,e]
  ·have ih:=keys_aput k v r
   simp only [aput,if_neg e,wQ,ih,wP]
   by_cases c:k∈List.map Prod.fst r<;>simp only [e,c,false_or,if_true,if_false,x3]
theorem keys_adel (k:Int):∀m:List (Int×Int),(adel k m).map Prod.fst=(m.map Prod.fst).erase k
 | []=>by simp [adel]
 | (a,b)::r=>by
  by_cases e:k=a
  ·simp [adel,e]
  ·have e':¬a=k:=fun h=>e h.symm
   simp [adel,e,e',List.erase_cons,keys_adel k r]
def kst (p t:Int) (x:GAccess) (ks:List Int):List Int :=
 if t<x.Time∨x.Place≠p then ks else if x.Kind=1 then (if x.Principal∈ks then ks else ks++[x.Principal]) else if x.Kind=2 then ks.erase x.Principal else ks
def keysf (p t:Int) (l:List GAccess):List Int:=l.foldl (fun ks x=>kst p t x ks) []
theorem gst_keys (p t i:Int) (x:GAccess) (m:List (Int×Int)):(gst p t i x m).map Prod.fst=kst p t x (m.map Prod.fst):=by
 unfold gst kst
 split
 ·rfl
 ·split
  ·exact keys_aput _ _ _
  ·split
   ·exact keys_adel _ _
   ·rfl
theorem foldP_keys (p t:Int):∀(l:List GAccess) (i:Int) (m:List (Int×Int)),(foldP (gst p t) l i m).map Prod.fst=l.foldl (fun ks x=>kst p t x ks) (m.map Prod.fst)
 | [],i,m=>rfl
 | x::r,i,m=>by
  simp only [foldP,wG,foldP_keys p t r]
  rw [gst_keys]
theorem grf_keys (p t:Int) (l:List GAccess):(grf p t l).map Prod.fst=keysf p t l:=foldP_keys p t l 0 []
theorem keysf_snoc (p t:Int) (l:List GAccess) (x:GAccess):keysf p t (l++[x])=kst p t x (keysf p t l):=by simp [keysf]
theorem kst_nodup {p t:Int} {x:GAccess} {ks:List Int} (h:ks.Nodup):(kst p t x ks).Nodup:=by
 unfold kst
 split
 ·exact h
 ·split
  ·split
   ·exact h
   ·rw [List.nodup_append]
    refine ⟨h,by simp,?_⟩
    intro a ha b hb e
    simp at hb;subst hb;subst e;contradiction
  ·split
   ·exact h.erase _
   ·exact h
theorem keysf_nodup (p t:Int) (l:List GAccess):(keysf p t l).Nodup:=by
 induction l using revList_ind with
 | h0=>simp [keysf]
 | h1 l x ih=>rw [keysf_snoc];exact kst_nodup ih
theorem keysf_len (p t:Int) (l:List GAccess):(keysf p t l).length≤l.length:=by
 induction l using revList_ind with
 | h0=>simp [keysf]
 | h1 l x ih =>
  rw [keysf_snoc]
  simp only [xG,zU]
  unfold kst
  split
  ·omega
  ·split
   ·split
    ·omega
    ·simp;omega
   ·split
    ·have:=List.length_erase_le (a:=x.Principal) (l:=keysf p t l);omega
    ·omega
theorem keysf_mem {p t:Int} {l:List GAccess} {k:Int} (h:k∈keysf p t l):∃x∈l,x.Kind=1∧x.Principal=k∧x.Place=p∧x.Time≤t:=by
 induction l using revList_ind with
 | h0=>simp [keysf] at h
 | h1 l x ih =>
  rw [keysf_snoc] at h
  unfold kst at h
  split at h
  ·obtain ⟨y,hy,h⟩:=ih h;exact ⟨y,by simp [hy],h⟩
  ·rename_i c
   split at h
   ·rename_i c2
    split at h
    ·obtain ⟨y,hy,h⟩:=ih h;exact ⟨y,by simp [hy],h⟩
    ·simp only [wD,xE] at h
     rcases h with h|h
     ·obtain ⟨y,hy,h⟩:=ih h;exact ⟨y,by simp [hy],h⟩
     ·refine ⟨x,by simp,c2,h.symm,?_,?_⟩<;>omega
   ·split at h
    ·obtain ⟨y,hy,h⟩:=ih (List.mem_of_mem_erase h);exact ⟨y,by simp [hy],h⟩
    ·obtain ⟨y,hy,h⟩:=ih h;exact ⟨y,by simp [hy],h⟩
def srtI (l:List Int):List Int:=l.mergeSort fun x y=>decide (x≤y)
theorem srtI_perm (l:List Int):(srtI l).Perm l:=List.mergeSort_perm _ _
theorem srtI_sorted (l:List Int):(srtI l).Pairwise (fun x y=>x≤y):=by
 have:=List.pairwise_mergeSort (le:=fun x y:Int=>decide (x≤y)) (fun a b c h1 h2=>by simp at *;omega) (fun a b=>by simp;omega) l
 exact this.imp fun h=>by simpa using h
theorem sorted_unique {l m:List Int} (h:l.Perm m) (h1:l.Pairwise (fun x y=>x≤y)) (h2:m.Pairwise (fun x y=>x≤y)):l=m :=
 h.eq_of_pairwise (fun a b _ _ h1 h2=>by omega) h1 h2
theorem srtI_congr {l m:List Int} (h:l.Perm m):srtI l=srtI m :=
 sorted_unique ((srtI_perm l).trans (h.trans (srtI_perm m).symm)) (srtI_sorted l) (srtI_sorted m)
theorem srtI_mem {l:List Int} {x:Int}:x∈srtI l↔x∈l:=(srtI_perm l).mem_iff
theorem granted_eq {a:GEstate} {p:Int} (t:Int) (hn:a.Events.length≤120) (h:F_1 a p=some true):F_e a p t=some (srtI (keysf p t a.Events)):=by
 simp only [F_e,h,xV,wR,vC,grants_eq]
 refine permL_of fun l hl=>?_
 have hp:(l.map Prod.fst).Perm (keysf p t a.Events):=by rw [←grf_keys];exact hl.map _
 have hlen:l.length≤120:=by
  have h1:=hp.length_eq
  have h2:=keysf_len p t a.Events
  simp at h1;omega
 rw [foldL_push (body:=F_20) (g:=Prod.fst) (b:=8) (n:=120) (by omega) (fun k x s=>rfl) l 0 [] (by simpa using hlen)]
 simp only [xV,wB,sortI]
 have:(l.map Prod.fst).length<4611686018427387904:=by simp;omega
 rw [if_pos this]
 simp only [xV]
 exact congrArg some (srtI_congr hp)
end Go.Ab
namespace Go.Ab
open Go.Proofs
def mok (d:GDirectory) (x:GMember):Prop :=
 (x.Kind=1∨x.Kind=2)∧0≤x.Time∧x.Time≤1099511627776∧(0≤x.Principal∧x.Principal<d.Kinds.length)∧(0≤x.Group∧x.Group<d.Kinds.length∧d.Kinds.getD x.Group.toNat default=2)∧x.Principal≠x.Group
structure GoodD (d:GDirectory):Prop where
 kl:d.Kinds.length≤24
 el:d.Events.length≤120
 kd:∀k∈d.Kinds,1≤k∧k≤3
 ev:∀x∈d.Events,mok d x
 srt:d.Events.Pairwise fun x y=>x.Time≤y.Time
theorem dexists_eq (d:GDirectory) (p:Int):F_c d p=some (decide (0≤p∧p<d.Kinds.length)):=by simp [F_c,grp]
theorem dgroup_eq (d:GDirectory) (p:Int):F_12 d p=some (decide (0≤p∧p<d.Kinds.length∧d.Kinds.getD p.toNat default=2)):=by
 simp only [F_12,dexists_eq,xV,jn]
 by_cases c:0≤p∧p<d.Kinds.length
 ·simp [c,chk_true (inb_iff.2 c)]
 ·have:¬(0≤p∧p<(d.Kinds.length:Int)∧d.Kinds.getD p.toNat default=2):=fun h=>c ⟨h.1,h.2.1⟩
  simp only [x8 c,x8 this,vC,xV]
def dchain (d:GDirectory):Int→List GMember→Prop
 | _,[]=>True
 | last,x::r=>(last≤x.Time∧mok d x)∧dchain d x.Time r
theorem dchain_iff {d:GDirectory}:∀{l:List GMember} {last:Int},dchain d last l↔((∀x∈l,last≤x.Time∧mok d x)∧l.Pairwise fun x y=>x.Time≤y.Time)
 | [],_=>by simp [dchain]
 | x::r,last=>by
  simp only [dchain,dchain_iff,wP,List.pairwise_cons]
  constructor
  ·rintro ⟨h1,h2,h3⟩
   refine ⟨fun y hy=>?_,fun y hy=>(h2 y hy).1,h3⟩
   rcases hy with rfl|hy
   ·exact h1
   ·have:=h1.1
    exact ⟨by have:=(h2 y hy).1;omega,(h2 y hy).2⟩
  ·rintro ⟨h1,h2,h3⟩
   exact ⟨h1 x (.inl rfl),fun y hy=>⟨h2 y hy,(h1 y (.inr hy)).2⟩,h3⟩
theorem dchkL_eq (d:GDirectory):∀(l:List GMember) (k last:Int),0≤last→∃o,forL (F_13 d) l k last=some o∧(dchain d last l→∃s,o=.nx s)∧(¬dchain d last l→o=.ex 30)
 | [],k,last,_=>⟨.nx last,rfl,fun _=>⟨_,rfl⟩,fun h=>absurd trivial h⟩
 | x :: r,k,last,h0=>by
  simp only [forL,F_13,grp,dexists_eq,dgroup_eq,jn]
  by_cases c:last≤x.Time∧mok d x
  ·obtain ⟨c1,c2,c3,c4,c5,c6,c7⟩:=c
   have e1:(!decide (x.Kind=1)&&!decide (x.Kind=2))=false:=by
    rcases c2 with h|h<;>simp [h]
   have e2:decide (x.Time<last)=false:=x8 (by omega)
   have e3:decide (1099511627776<x.Time)=false:=x8 (by omega)
   simp only [e1,e2,e3,Bool.or_self,vC,xV,wL c5,wR,wL c6,x8 c7,Fl_nx]
   obtain ⟨o,h1,h2,h3⟩:=dchkL_eq d r (k+1) x.Time c3
   refine ⟨o,h1,fun h=>h2 h.2,fun h=>h3 fun hc=>h ⟨⟨c1,c2,c3,c4,c5,c6,c7⟩,hc⟩⟩
  ·refine ⟨.ex 30,?_,fun h=>absurd h.1 c,fun _=>rfl⟩
   by_cases d1:x.Kind=1∨x.Kind=2
   ·have e1:(!decide (x.Kind=1)&&!decide (x.Kind=2))=false:=by
     rcases d1 with h|h<;>simp [h]
    by_cases d2:x.Time<last∨1099511627776<x.Time
    ·have:(decide (x.Time<last)||decide (1099511627776<x.Time))=true:=by simpa using d2
     simp only [e1,wS,this,vE,xV,Fl_ex]
    ·have:(decide (x.Time<last)||decide (1099511627776<x.Time))=false:=by
      simp only [xA,zK];omega
     simp only [e1,wS,this,vC,xV]
     by_cases d3:0≤x.Principal∧x.Principal<d.Kinds.length
     ·simp only [wL d3,wR,vC]
      by_cases d4:0≤x.Group∧x.Group<d.Kinds.length∧d.Kinds.getD x.Group.toNat default=2
      ·have d5:x.Principal=x.Group:=Classical.byContradiction fun hne=>c ⟨by omega,d1,by omega,by omega,d3,d4,hne⟩
       simp only [wL d4,wL d5,wR,wS,vE,xV,Fl_ex]
      ·simp only [x8 d4,wN,Bool.true_or,vE,xV,Fl_ex]
     ·simp only [x8 d3,wN,vE,xV,Fl_ex]
   ·have e1:(!decide (x.Kind=1)&&!decide (x.Kind=2))=true:=by
     simp only [not_or] at d1
     simp [d1.1,d1.2]
    simp only [e1,Bool.true_or,vE,xV,Fl_ex]
theorem find_negD {α:Type} {body:Int→α→Unit→Option (Fl Unit Int)} (p:α→Prop) [DecidablePred p] (h:∀k x,body k x ()=some (if p x then .ex k else .nx ())):∀(xs:List α) (k:Int),0≤k →
  ∃o,forL body xs k ()=some o∧((∃x∈xs,p x)→∃r,o=.ex r∧0≤r)∧((∀x∈xs,¬p x)→o=.nx ())
 | [],k,hk=>⟨.nx (),rfl,fun ⟨x,hx,_⟩=>by simp at hx,fun _=>rfl⟩
 | x::r,k,hk=>by
  simp only [forL,h]
  by_cases c:p x
  ·simp only [if_pos c,xV,Fl_ex]
   exact ⟨_,rfl,fun _=>⟨k,rfl,hk⟩,fun hn=>absurd c (hn x (by simp))⟩
  ·simp only [if_neg c,xV,Fl_nx]
   obtain ⟨o,h1,h2,h3⟩:=find_negD p h r (k+1) (by omega)
   refine ⟨o,h1,fun ⟨y,hy,hp⟩=>?_,fun hn=>h3 fun y hy=>hn y (by simp [hy])⟩
   rcases wP.1 hy with rfl|hy
   ·exact absurd hp c
   ·exact h2 ⟨y,hy,hp⟩
theorem contains_ofD {α:Type} {body:Int→α→Unit→Option (Fl Unit Int)} (p:α→Prop) [DecidablePred p] (xs:List α) [Decidable (∃x∈xs,p x)] (h:∀k x,body k x ()=some (if p x then .ex k else .nx ())) :
  (((forL body xs 0 ()).bind fun o=>o.elim (fun _=>some (-1)) fun r=>some r).bind fun y=>some (decide (0≤y)))=some (decide (∃x∈xs,p x)):=by
 obtain ⟨o,h1,h2,h3⟩:=find_negD p h xs 0 (vB 0)
 rw [h1]
 by_cases c:∃x∈xs,p x
 ·obtain ⟨r,rfl,hr⟩:=h2 c
  simp only [xV,Fl_ex,wL hr,wL c]
 ·have:=h3 fun x hx hp=>c ⟨x,hx,hp⟩
  subst this
  simp only [xV,Fl_nx,x8 c]
  rfl
theorem dcont_eq (s:List Int) (v:Int):F_2n s v=some (decide (v∈s)):=by
 have h:=contains_ofD (body:=F_3g v) (fun y=>v=y) s fun k y=>by
  by_cases c:v=y<;>simp [F_3g,c]
 have e:decide (∃y∈s,v=y)=decide (v∈s):=decide_eq_decide.2 ⟨fun ⟨y,hy,e⟩=>e▸hy,fun h=>⟨v,h,rfl⟩⟩
 rw [e] at h
 exact h
theorem goodD_iff (d:GDirectory):GoodD d↔d.Kinds.length≤24∧d.Events.length≤120∧(∀k∈d.Kinds,1≤k∧k≤3)∧dchain d 0 d.Events:=by
 rw [dchain_iff]
 exact ⟨fun h=>⟨h.kl,h.el,h.kd,fun x hx=>⟨(h.ev x hx).2.1,h.ev x hx⟩,h.srt⟩,fun ⟨h1,h2,h3,h4,h5⟩=>⟨h1,h2,h3,fun x hx=>(h4 x hx).2,h5⟩⟩
open Classical in
theorem dcheck_eq (d:GDirectory):F_9 d=some (if GoodD d then 0 else 30):=by
 simp only [F_9,grp]
 by_cases h1:d.Kinds.length≤24∧d.Events.length≤120
 ·have e1:(decide (24<(d.Kinds.length:Int))||decide (120<(d.Events.length:Int)))=false:=by
   simp only [xA,zK];omega
  have e2:F_2p d.Kinds=some (decide (∃k∈d.Kinds,¬(1≤k∧k≤3))):=by
   refine contains_ofD (fun k=>¬(1≤k∧k≤3)) d.Kinds fun k x=>?_
   simp only [F_2o,F_s,grp,xV]
   by_cases c:1≤x∧x≤3
   ·have:(decide (x<1)||decide (3<x))=false:=by simp only [xA,zK];omega
    simp [this,c]
   ·have:(decide (x<1)||decide (3<x))=true:=by simp only [wJ,xK];omega
    simp only [this,vE,c,not_false_eq_true,if_true]
  simp only [e1,e2,vC,xV]
  by_cases q:∃k∈d.Kinds,¬(1≤k∧k≤3)
  ·have:¬GoodD d:=fun h=>by obtain ⟨k,hk,hn⟩:=q;exact hn (h.kd k hk)
   simp only [wL q,vE,if_neg this]
  ·simp only [x8 q,vC]
   have q':∀k∈d.Kinds,1≤k∧k≤3:=fun k hk=>Classical.byContradiction fun hn=>q ⟨k,hk,hn⟩
   obtain ⟨o,k1,k2,k3⟩:=dchkL_eq d d.Events 0 0 (vB 0)
   rw [k1]
   by_cases c:dchain d 0 d.Events
   ·obtain ⟨s,rfl⟩:=k2 c
    simp only [xV,Fl_nx,if_pos ((goodD_iff d).2 ⟨h1.1,h1.2,q',c⟩)]
   ·rw [k3 c]
    have:¬GoodD d:=fun h=>c ((goodD_iff d).1 h).2.2.2
    simp only [xV,Fl_ex,if_neg this]
 ·have e1:(decide (24<(d.Kinds.length:Int))||decide (120<(d.Events.length:Int)))=true:=by
   simp only [wJ,xK];omega
  have:¬GoodD d:=fun h=>h1 ⟨h.kl,h.el⟩
  simp only [e1,vE,if_neg this]
theorem dknown_eq {d:GDirectory} (g:GoodD d) (p:Int):F_1x d p=some (decide (0≤p∧p<d.Kinds.length)):=by
 simp only [F_1x,dcheck_eq,if_pos g,xV,decide_true,vE,dexists_eq,jn]
end Go.Ab
namespace Go.Ab
open Go.Proofs
inductive RT (L:Nat→Nat→Bool) (n p:Nat):Nat→Prop
 | refl:RT L n p p
 | step {a b:Nat} (h:RT L n p a) (ha:a<n) (hb:b<n) (hl:L a b=true):RT L n p b
theorem room_smD {n b:Nat} (h:n*b≤1000000):room n b=true:=room_iff.2 (by omega)
theorem in64_smD {n:Int} (h1:-1000000000000000≤n) (h2:n≤1000000000000000):in64 n=true:=in64_iff.2 ⟨by omega,by omega⟩
def gt (o:List Bool):Nat→Bool:=fun i=>o.getD i false
theorem gt_set {o:List Bool} {k:Nat} (hk:k<o.length) (i:Nat):gt (o.set k true) i=if i=k then true else gt o i:=by
 simp only [gt,zE,xN]
 by_cases e:k=i
 ·subst e;simp [hk]
 ·rw [if_neg e,if_neg (fun h=>e h.symm)]
theorem uprow_ok {L:Nat→Nat→Bool} {n p:Nat} (hn:n≤24) {row:List Bool} (hr:row.length=n) {a:Nat} (ha:a<n) (hL:∀i,i<n→row.getD i false=L a i) (q:List Int) (o:List Bool) (ho:o.length=n) (hq:q.length≤100)
  (hR:∀i,i<n→gt o i=true→RT L n p i) (hRa:RT L n p a) :
  Ok (foldL F_1y row 0 (q,o)) fun s=>∃news,s.1=q++news∧s.2.length=n∧(∀x∈news,0≤x∧x<n∧gt s.2 x.toNat=true)∧(∀i,gt o i=true→gt s.2 i=true)∧(∀i,i<n→gt s.2 i=true→RT L n p i) ∧
   (∀i,i<n→L a i=true→gt s.2 i=true)∧(∀i,i<n→gt s.2 i=true→gt o i=true∨(i:Int)∈news)∧cnt (gt s.2) n=cnt (gt o) n+news.length:=by
 refine Ok.foldI (all:=row) (fun pre s=>∃news,s.1=q++news∧s.2.length=n∧(∀x∈news,0≤x∧x<n∧gt s.2 x.toNat=true)∧(∀i,gt o i=true→gt s.2 i=true)∧(∀i,i<n→gt s.2 i=true→RT L n p i) ∧
   (∀i,i<pre.length→L a i=true→gt s.2 i=true)∧(∀i,i<n→gt s.2 i=true→gt o i=true∨(i:Int)∈news)∧cnt (gt s.2) n=cnt (gt o) n+news.length) row [] 0 _ rfl rfl ⟨[],by simp,ho,by simp,fun _ h=>h,hR,fun i hi=>by simp at hi,fun i _ h=>.inl h,by simp⟩ (fun pre x r s hw hs=>?_) fun s hs=>by rw [hr] at hs;exact hs
 obtain ⟨q',o'⟩:=s
 obtain ⟨news,rfl,h1,h2,h3,h4,h5,h6,h7⟩:=hs
 simp only at h1 h2 h3 h4 h5 h6 h7
 have hlen:pre.length<n:=by rw [←hr,hw];simp
 have hx:x=L a pre.length:=by rw [←hL _ hlen,hw];simp
 unfold F_1y
 have hi:inb (pre.length:Int) o'.length=true:=inb_iff.2 ⟨by omega,by omega⟩
 have hg:o'.getD (pre.length:Int).toNat default=gt o' pre.length:=by simp [gt]
 cases hxx:x with
 | false =>
  simp only [vC,jn,xV]
  refine Ok.ret ⟨news,rfl,h1,h2,h3,h4,fun i hi' hl=>?_,h6,h7⟩
  simp only [xG,zU] at hi'
  by_cases e:i=pre.length
  ·subst e;rw [←hx,hxx] at hl;cases hl
  ·exact h5 i (by omega) hl
 | true =>
  have hla:L a pre.length=true:=by rw [←hx,hxx]
  simp only [vE,jn,chk_true hi,xV,hg]
  cases hgo:gt o' pre.length with
  | true =>
   simp only [wR,vC]
   refine Ok.ret ⟨news,rfl,h1,h2,h3,h4,fun i hi' hl=>?_,h6,h7⟩
   simp only [xG,zU] at hi'
   by_cases e:i=pre.length
   ·subst e;exact hgo
   ·exact h5 i (by omega) hl
  | false =>
   simp only [wN,vE]
   have hc1:=cnt_le (gt o') n
   refine Ok.chk (room_smD (by simp;omega)) ?_
   have hset:∀i,gt (o'.set (pre.length:Int).toNat true) i=if i=pre.length then true else gt o' i:=fun i=>by
    have:=gt_set (o:=o') (k:=pre.length) (by omega) i
    simpa using this
   have hmono:∀i,gt o' i=true→gt (o'.set (pre.length:Int).toNat true) i=true:=fun i h=>by rw [hset];split<;>simp [h]
   refine Ok.ret ⟨news++[(pre.length:Int)],by simp,by simp [h1],fun y hy=>?_,fun i h=>hmono i (h3 i h),fun i hi' h=>?_,fun i hi' hl=>?_,fun i hi' h=>?_,?_⟩
   ·simp only [wD,xE] at hy
    rcases hy with hy|rfl
    ·obtain ⟨a1,a2,a3⟩:=h2 y hy
     exact ⟨a1,a2,hmono _ a3⟩
    ·exact ⟨by omega,by omega,by simp only [hset];simp⟩
   ·simp only [hset] at h
    by_cases e:i=pre.length
    ·subst e;exact .step hRa ha hlen hla
    ·rw [if_neg e] at h;exact h4 i hi' h
   ·simp only [xG,zU] at hi'
    by_cases e:i=pre.length
    ·simp only [hset,e,if_true]
    ·exact hmono i (h5 i (by omega) hl)
   ·simp only [hset] at h
    by_cases e:i=pre.length
    ·exact .inr (by simp [e])
    ·rw [if_neg e] at h
     rcases h6 i hi' h with h|h
     ·exact .inl h
     ·exact .inr (by simp [h])
   ·have:cnt (gt (o'.set (pre.length:Int).toNat true)) n=cnt (gt o') n+1:=by
     have key:∀m,cnt (gt (o'.set (pre.length:Int).toNat true)) m=cnt (gt o') m+(if pre.length<m then 1 else 0):=by
      intro m
      induction m with
      | zero=>simp [cnt]
      | succ m ih =>
       simp only [cnt,ih,hset]
       by_cases e:m=pre.length
       ·subst e;rw [hgo];simp
       ·rw [if_neg e]
        by_cases c:pre.length<m
        ·rw [if_pos c,if_pos (by omega)];omega
        ·rw [if_neg c,if_neg (by omega)];omega
     rw [key,if_pos hlen]
    simp only [this,xG,zU]
    omega
theorem upward_ok {L:Nat→Nat→Bool} {n p:Nat} (hn:n≤24) (hp:p<n) (T:List (List Bool)) (hT:T.length=n) (hrow:∀a,a<n→(T.getD a default).length=n∧∀i,i<n→(T.getD a default).getD i false=L a i) :
  Ok (F_16 T (p:Int)) fun o=>o.length=n∧∀i,i<n→(gt o i=true↔RT L n p i):=by
 unfold F_16
 rw [hT]
 have hl0:(List.replicate ((n:Int)).toNat false).length=n:=by simp
 refine Ok.chk (roomI_iff.2 ⟨by omega,by omega,by omega⟩) (Ok.chk (inb_iff.2 ⟨by omega,by rw [hl0];omega⟩) ?_)
 have hset:∀i,gt ((List.replicate ((n:Int)).toNat false).set ((p:Int)).toNat true) i=if i=p then true else gt (List.replicate n false) i:=fun i=>by
  have:=gt_set (o:=List.replicate n false) (k:=p) (by simpa using hp) i
  simpa using this
 have hrep:∀i,gt (List.replicate n false) i=false:=fun i=>by
  simp only [gt,zE,List.getElem?_replicate]
  split<;>rfl
 refine Ok.bind (Ok.loop (Q:=fun o:List Bool=>o.length=n∧∀i,i<n→(gt o i=true↔RT L n p i))
  (fun (s:List Int×List Bool)=>s.2.length=n∧(∀x∈s.1,0≤x∧x<n∧gt s.2 x.toNat=true)∧(∀i,i<n→gt s.2 i=true→RT L n p i)∧gt s.2 p=true∧(∀a,a<n→gt s.2 a=true→(a:Int)∉s.1→∀b,b<n→L a b=true→gt s.2 b=true)∧s.1.length≤cnt (gt s.2) n)
  (fun (s:List Int×List Bool)=>2*(n - cnt (gt s.2) n)+s.1.length) (fun s hs=>?_) _ ?_) fun r hr=>Ok.ret hr
 ·obtain ⟨q,o⟩:=s
  obtain ⟨i1,i2,i3,i4,i5,i6⟩:=hs
  simp only at i1 i2 i3 i4 i5 i6
  unfold F_2r
  have hcn:=cnt_le (gt o) n
  refine Ok.ite (fun cq=>?_) fun cq=>?_
  ·have cq:0<(q.length:Int):=by simpa using cq
   obtain ⟨q0,rest,rfl⟩:∃a r,q=a::r:=by
    cases q with
    | nil=>simp at cq
    | cons a r=>exact ⟨a,r,rfl⟩
   have e0:(q0::rest).getD 0 default=q0:=rfl
   obtain ⟨b1,b2,b3⟩:=i2 q0 (by simp)
   refine Ok.chk (inb_iff.2 ⟨by omega,cq⟩) ?_
   simp only [e0]
   have hqa:q0.toNat<n:=by omega
   obtain ⟨r1,r2⟩:=hrow q0.toNat hqa
   refine Ok.chk (inb_iff.2 ⟨by omega,by rw [hT];exact b2⟩) (Ok.bind (uprow_ok (p:=p) hn r1 hqa r2 (q0::rest) o i1 (by omega) i3 (i3 _ hqa b3)) fun s hs=>?_)
   obtain ⟨q',o'⟩:=s
   obtain ⟨news,hq',h1,h2,h3,h4,h5,h6,h7⟩:=hs
   simp only at hq' h1 h2 h3 h4 h5 h6 h7
   subst hq'
   have hcn':=cnt_le (gt o') n
   refine Ok.chk (inc_iff.2 ⟨by omega,by simp;omega,by omega⟩) (Ok.ret ?_)
   have e1:(((q0::rest)++news).drop 1).take (((q0::rest)++news).length - 1)=rest++news:=by
    simp only [x3,xB,wM,xY,Nat.add_sub_cancel]
    exact xW
   rw [e1]
   refine ⟨⟨h1,fun x hx=>?_,h4,h3 p i4,fun a ha hga hna b hb hl=>?_,?_⟩,?_⟩
   ·rcases wD.1 hx with hx|hx
    ·obtain ⟨c1,c2,c3⟩:=i2 x (by simp [hx])
     exact ⟨c1,c2,h3 _ c3⟩
    ·exact h2 x hx
   ·simp only [wD,not_or] at hna
    rcases h6 a ha hga with hoa|hnew
    ·by_cases e:(a:Int)=q0
     ·have:a=q0.toNat:=by omega
      subst this
      exact h5 b hb hl
     ·exact h3 b (i5 a ha hoa (by simp only [wP,not_or];exact ⟨e,hna.1⟩) b hb hl)
    ·exact absurd hnew hna.2
   ·simp only [xG,xY] at i6 ⊢
    omega
   ·show 2*(n - cnt (gt o') n)+(rest++news).length<2*(n - cnt (gt o) n)+(q0::rest).length
    simp only [xG,xY] at i6 ⊢
    omega
  ·have:q=[]:=by
    have cq:¬0<(q.length:Int):=by simpa using cq
    exact zM.1 (by omega)
   subst this
   refine Ok.ret ⟨i1,fun i hi=>⟨i3 i hi,fun h=>?_⟩⟩
   induction h with
   | refl=>exact i4
   | step h ha hb hl ih=>exact i5 _ ha (ih ha) (by simp) _ hb hl
 ·refine ⟨by simp,fun x hx=>?_,fun i hi h=>?_,by simp only [hset,if_true],fun a ha h hna=>?_,?_⟩
  ·simp only [xE] at hx
   subst hx
   exact ⟨by omega,by omega,by simp only [hset];simp⟩
  ·simp only [hset,hrep] at h
   by_cases e:i=p
   ·subst e;exact .refl
   ·rw [if_neg e] at h;cases h
  ·simp only [hset,hrep] at h
   by_cases e:a=p
   ·subst e;simp at hna
   ·rw [if_neg e] at h;cases h
  ·exact cnt_pos (j:=p) (by simp only [hset,if_true]) n hp
end Go.Ab
namespace Go.Ab
open Go.Proofs
def dlk (d:GDirectory) (t:Int):Nat→Nat→Bool:=zk (ev4 (d.Events.map fun e=>(e.Time,e.Kind,e.Principal,e.Group))) t d.Events.length
open Classical in
noncomputable def upl (d:GDirectory) (p t:Int):List Int:=((List.range d.Kinds.length).filter fun i=>decide (RT (dlk d t) d.Kinds.length p.toNat i)).map fun i:Nat=>(i:Int)
theorem at_eq {d:GDirectory} (g:GoodD d) (t:Int):atF d.Kinds.length (d.Events.map fun e=>(e.Time,e.Kind,e.Principal,e.Group)) t=some ((List.range d.Kinds.length).map fun j=>(List.range d.Kinds.length).map fun i=>dlk d t j i):=by
 have hk:=g.kl
 unfold atF
 rw [chk_true (by simp;omega),chk_true]
 ·simp [dlk]
 ·simp only [x4,w4]
  rintro _ ⟨e,he,rfl⟩
  obtain ⟨_,_,_,h4,h5,_⟩:=g.ev e he
  have e1:inb e.Principal d.Kinds.length=true:=inb_iff.2 h4
  have e2:inb e.Group d.Kinds.length=true:=inb_iff.2 ⟨h5.1,h5.2.1⟩
  simp [e1,e2]
theorem those_eq (l:List Bool) (h:l.length≤24):F_17 l=some (((List.range l.length).filter (gt l)).map fun i:Nat=>(i:Int)):=by
 refine Ok.eq ?_
 unfold F_17
 refine Ok.bind (Ok.foldI (all:=l) (fun pre s=>s=((List.range pre.length).filter (gt l)).map fun i:Nat=>(i:Int)) l [] 0 [] rfl rfl rfl (fun pre x r s hw hs=>?_) fun s hs=>hs) fun s hs=>Ok.ret hs
 subst hs
 unfold F_3m
 have hp:pre.length<l.length:=by rw [hw];simp
 have hx:gt l pre.length=x:=by rw [hw];simp [gt]
 have hlen:(((List.range pre.length).filter (gt l)).map fun i:Nat=>(i:Int)).length≤pre.length:=by
  rw [wF];exact wX (List.length_filter_le _ _) (by simp)
 simp only [xG,zU,List.range_succ,List.filter_append,List.map_append]
 cases x
 ·simp only [vC]
  exact Ok.ret (by simp [hx])
 ·simp only [vE]
  exact Ok.chk (room_smD (by simp only [wF] at hlen ⊢;omega)) (Ok.ret (by simp [hx]))
theorem upward_eq {d:GDirectory} (g:GoodD d) {p:Int} (t:Int) (h0:0≤p) (h1:p<d.Kinds.length):F_t d p t=some (upl d p t):=by
 have hk:decide (0≤p∧p<(d.Kinds.length:Int))=true:=wL ⟨h0,h1⟩
 simp only [F_t,dknown_eq g,hk,xV,wR,vC,at_eq g]
 obtain ⟨o,ho,ho1,ho2⟩:=upward_ok (L:=dlk d t) (n:=d.Kinds.length) (p:=p.toNat) g.kl (by omega) ((List.range d.Kinds.length).map fun j=>(List.range d.Kinds.length).map fun i=>dlk d t j i) (by simp) fun a ha=>by
  have e:((List.range d.Kinds.length).map fun j=>(List.range d.Kinds.length).map fun i=>dlk d t j i).getD a default=(List.range d.Kinds.length).map fun i=>dlk d t a i:=by simp [zE,ha]
  rw [e]
  exact ⟨by simp,fun i hi=>by simp [zE,hi]⟩
 rw [show ((p.toNat:Nat):Int)=p by omega] at ho
 rw [ho]
 have hl:=g.kl
 simp only [xV,those_eq o (by rw [ho1];exact hl)]
 simp only [upl,ho1]
 congr 2
 refine List.filter_congr fun i hi=>?_
 have:=ho2 i (List.mem_range.1 hi)
 cases e:gt o i with
 | true=>simp [this.1 e]
 | false =>
  have h:¬RT (dlk d t) d.Kinds.length p.toNat i:=fun h=>by rw [this.2 h] at e;cases e
  simp [h]
def rdr (d:GDirectory) (p:Int):Prop:=0≤p∧p<d.Kinds.length∧d.Kinds.getD p.toNat default≠2
theorem reader_eq (d:GDirectory) (p:Int) [Decidable (rdr d p)]:F_2q d p=some (decide (rdr d p)):=by
 simp only [F_2q,grp,jn]
 by_cases c:0≤p∧p<(d.Kinds.length:Int)
 ·have e:(decide (0≤p)&&decide (p<(d.Kinds.length:Int)))=true:=by simpa using c
  simp only [e,vE,chk_true (inb_iff.2 c),xV]
  congr 1
  by_cases q:d.Kinds.getD p.toNat default=2
  ·rw [wL q,x8 (fun h:rdr d p=>h.2.2 q)];rfl
  ·rw [x8 q,wL (show rdr d p from ⟨c.1,c.2,q⟩)];rfl
 ·have e:(decide (0≤p)&&decide (p<(d.Kinds.length:Int)))=false:=by
   cases h:(decide (0≤p)&&decide (p<(d.Kinds.length:Int)))
   ·rfl
   ·exact absurd (by simpa using h) c
  simp only [e,vC,xV]
  rw [x8 (fun h:rdr d p=>c ⟨h.1,h.2.1⟩)]
open Classical in
theorem fine_eq {d:GDirectory} {a:GEstate} (g:GoodD d) (h:Good a) (p pl:Int):F_1w d a p pl=some (decide (rdr d p∧0≤pl∧pl≤a.Places - 1)):=by
 simp only [F_1w,F_i,dcheck_eq,check_eqA,if_pos g,if_pos h,xV,jn,reader_eq,place_eqA a pl h.lo h.hi]
 by_cases c:rdr d p<;>simp [c]
theorem rgr_go (U:List Int):∀(xs:List Int) (k:Int),forL (F_21 U) xs k ()=some (match xs.find? (fun x=>decide (x∈U)) with|some x=>.ex (x,true)|none=>.nx ())
 | [],k=>rfl
 | x::r,k=>by
  simp only [forL,F_21,dcont_eq,xV,List.find?_cons]
  by_cases c:x∈U
  ·simp [c,Fl_ex]
  ·simp [c,Fl_nx,rgr_go U r (k+1)]
def fst0 (o:Option Int):Int×Bool:=match o with|some x=>(x,true)|none=>(0,false)
theorem rgrant_eq {d:GDirectory} {a:GEstate} {p pl t:Int} {U G:List Int} (h1:F_t d p t=some U) (h2:F_e a pl t=some G):F_18 d a p pl t=some (fst0 (G.find? fun x=>decide (x∈U))):=by
 simp only [F_18,h1,h2,xV,rgr_go]
 cases G.find? (fun x=>decide (x∈U))<;>simp [fst0,Fl_nx,Fl_ex]
def mayP (d:GDirectory) (a:GEstate) (p pl t:Int):Prop :=
 (rdr d p∧0≤pl∧pl≤a.Places - 1)∧((lkf pl t a.Events 0 (0,false)).2=true∨∃x∈keysf pl t a.Events,x∈upl d p t)
open Classical in
theorem may_eq {d:GDirectory} {a:GEstate} (g:GoodD d) (h:Good a) (p pl t:Int):F_u d a p pl t=some (decide (mayP d a p pl t)):=by
 simp only [F_u,fine_eq g h,xV,grp]
 by_cases c:rdr d p∧0≤pl∧pl≤a.Places - 1
 ·have hk:=known_of h c.2.1 c.2.2
  rw [linked_eq t hk,rgrant_eq (upward_eq g t c.1.1 c.1.2.1) (granted_eq t h.len hk)]
  simp only [wL c,wR,vC,xV]
  congr 1
  by_cases q:∃x∈keysf pl t a.Events,x∈upl d p t
  ·have:(fst0 ((srtI (keysf pl t a.Events)).find? fun x=>decide (x∈upl d p t))).2=true:=by
    obtain ⟨x,hx,hu⟩:=q
    cases e:(srtI (keysf pl t a.Events)).find? fun x=>decide (x∈upl d p t) with
    | some y=>rfl
    | none =>
     have:=List.find?_eq_none.1 e x (srtI_mem.2 hx)
     simp [hu] at this
   rw [this,Bool.or_true]
   exact (wL (show mayP d a p pl t from ⟨c,.inr q⟩)).symm
  ·have:(fst0 ((srtI (keysf pl t a.Events)).find? fun x=>decide (x∈upl d p t))).2=false:=by
    cases e:(srtI (keysf pl t a.Events)).find? fun x=>decide (x∈upl d p t) with
    | none=>rfl
    | some y =>
     refine absurd ⟨y,srtI_mem.1 (List.mem_of_find?_eq_some e),?_⟩ q
     have:=List.find?_some e
     simpa using this
   rw [this,Bool.or_false]
   cases e:(lkf pl t a.Events 0 (0,false)).2 with
   | true=>exact (wL (show mayP d a p pl t from ⟨c,.inl e⟩)).symm
   | false =>
    refine (x8 fun hm:mayP d a p pl t=>?_).symm
    rcases hm.2 with h|h
    ·rw [e] at h;cases h
    ·exact q h
 ·simp only [x8 c,wN,vE]
  congr 1
  exact (x8 fun hm:mayP d a p pl t=>c hm.1).symm
end Go.Ab
namespace Go.Ab
open Go.Proofs
theorem compactUpTo_memG (d:Array Int):∀(m i:Nat),i<m→d[i]! ∈ Go.Lib.compactUpTo d m
 | 0,i,h=>by omega
 | m + 1,i,h=>by
  rw [Go.Lib.compactUpTo_succ,wD]
  rcases Nat.lt_or_ge i m with h1|h1
  ·exact .inl (compactUpTo_memG d m i h1)
  ·have e:i=m:=by omega
   subst e
   cases hk:Go.Lib.keeps d i with
   | true=>right;simp [hk]
   | false =>
    left
    cases i with
    | zero=>simp [Go.Lib.keeps] at hk
    | succ i =>
     have h2:d[i+1]! = d[i]! := by
      by_cases c:d[i+1]! = d[i]!
      ·exact c
      ·have:=Go.Lib.keeps_pos (d:=d) (m:=i+1) (by simpa using c)
       rw [hk] at this;cases this
     rw [h2]
     exact compactUpTo_memG d (i+1) i (by omega)
theorem compact_allG (xs:List Int):∀x∈xs,x∈Go.Lib.compact xs:=by
 intro x hx
 obtain ⟨i,hi,rfl⟩:=z7.1 hx
 have:=compactUpTo_memG xs.toArray xs.length i hi
 simpa [Go.Lib.compact,hi] using this
theorem compact_iff {xs:List Int} {x:Int}:x∈Go.Lib.compact xs↔x∈xs:=⟨compact_mem xs x,compact_allG xs x⟩
theorem compact_sub (xs:List Int):(Go.Lib.compact xs).Sublist xs:=by
 have h:(List.range xs.length).map (fun i=>xs.toArray[i]!)=xs:=by
  apply List.ext_getElem
  ·simp
  ·intro i h1 h2
   simp [h2]
 have:=(List.filter_sublist (p:=Go.Lib.keeps xs.toArray) (l:=List.range xs.length)).map (fun i=>xs.toArray[i]!)
 rw [h] at this
 exact this
theorem times_eqG {a:GEstate} (g:Good a):F_24 a=some (Go.Lib.compact (a.Events.map GAccess.Time)):=by
 simp only [F_24,check_eqA,if_pos g,xV,decide_true,wR,vC]
 have h:=g.len
 rw [foldL_push (body:=F_2s) (g:=GAccess.Time) (b:=8) (n:=120) (by omega) (fun k x s=>rfl) a.Events 0 [] (by simpa using h)]
 simp only [xV,compactI,wB,wM]
 rw [List.take_left']
 rfl
def tms (d:GDirectory) (a:GEstate):List Int:=Go.Lib.compact (srtI (Go.Lib.compact (a.Events.map GAccess.Time)++d.Events.map GMember.Time))
theorem mem_tms {d:GDirectory} {a:GEstate} {t:Int}:t∈tms d a↔(∃x∈a.Events,x.Time=t)∨∃x∈d.Events,x.Time=t:=by
 simp only [tms,compact_iff,srtI_mem,wD,w4]
theorem etimes_eq {d:GDirectory} {a:GEstate} (g:GoodD d) (h:Good a):F_1b d a=some (tms d a):=by
 have h1:=h.len
 have h2:=g.el
 have h3:=(compact_sub (a.Events.map GAccess.Time)).length_le
 rw [wF] at h3
 simp only [F_1b,times_eqG h,xV]
 rw [foldL_push (body:=F_1a) (g:=GMember.Time) (b:=8) (n:=240) (by omega) (fun k x s=>rfl) d.Events 0 _ (by omega)]
 simp only [xV,sortI,xG,wF]
 rw [if_pos (by omega)]
 simp only [xV,compactI,wM]
 rw [List.take_left']
 ·rfl
 ·rfl
theorem bit_eq {c:Int} (h0:0≤c) (h1:c≤63):F_1c c=some (IntKind.wrap .u64 (1*2^c.toNat)):=by
 unfold F_1c
 have:shok c 64=true:=by rw [←shok_and64];omega
 rw [chk_true this]
theorem happen_ok {P:Int} {s:List Int} {x:GAccess} (h:xok P x) (hs:(s.length:Int)=P):Ok (F_j s x) fun s'=>s'.length=s.length:=by
 obtain ⟨_,_,h3,h4,h5⟩:=h
 have hp:inb x.Place s.length=true:=inb_iff.2 ⟨h3,by omega⟩
 unfold F_j
 refine Ok.ite (fun c=>?_) fun c=>Ok.ite (fun c2=>?_) fun c2=>Ok.ite (fun c3=>?_) fun c3=>Ok.ret rfl
 ·have c:x.Kind=5:=by simpa using c
  exact Ok.chk hp (Ok.bind (P:=fun _=>True) (Ok.of (bit_eq (by omega) (by omega)) trivial) fun _ _=>Ok.chk hp (Ok.ret (by simp)))
 ·have c2:x.Kind=6:=by simpa using c2
  exact Ok.chk hp (Ok.bind (P:=fun _=>True) (Ok.of (bit_eq (by omega) (by omega)) trivial) fun _ _=>Ok.chk hp (Ok.ret (by simp)))
 ·have c3:x.Kind=7:=by simpa using c3
  have hf:inb x.From s.length=true:=inb_iff.2 ⟨by omega,by omega⟩
  exact Ok.chk hp (Ok.chk hf (Ok.chk hp (Ok.ret (by simp))))
theorem cat_ok {a:GEstate} (g:Good a) (t:Int):Ok (F_1d a t) fun s=>(s.length:Int)=a.Places:=by
 have h1:=g.lo
 have h2:=g.hi
 unfold F_1d
 refine Ok.chk (roomI_iff.2 ⟨by omega,by omega,by omega⟩) (Ok.bind (Ok.foldI (all:=a.Events) (fun _ s=>(s.length:Int)=a.Places) a.Events [] 0 _ rfl rfl (by simp;omega) (fun pre x r s hw hs=>?_) fun s hs=>hs) fun s hs=>Ok.ret hs)
 unfold F_25
 refine Ok.ite (fun _=>Ok.bind (happen_ok (g.ev x (by rw [hw];simp)) hs) fun y hy=>Ok.ret ?_) fun _=>Ok.ret hs
 rw [hy];exact hs
theorem where_ok {a:GEstate} (g:Good a) {c:Int} (h0:0≤c) (h1:c≤63) (t:Int):Ok (F_k a c t) fun W=>∀x∈W,0≤x∧x≤a.Places - 1:=by
 have hc:F_5 c=some true:=by simp [F_5,among_eqA,h0,h1]
 have h2:=g.hi
 simp only [F_k,check_eqA,if_pos g,xV,decide_true,wR,vC,hc]
 refine Ok.bind (cat_ok g t) fun s hs=>Ok.bind (Ok.foldI (all:=s) (fun pre W=>W.length≤pre.length∧∀x∈W,0≤x∧x≤a.Places - 1) s [] 0 _ rfl rfl ⟨by simp,by simp⟩ (fun pre x r W hw hW=>?_) fun W hW=>hW.2) fun W hW=>Ok.ret hW
 unfold F_3o
 have hp:pre.length<s.length:=by rw [hw];simp
 refine Ok.bind (P:=fun _=>True) (Ok.of (bit_eq h0 h1) trivial) fun b _=>Ok.ite (fun _=>Ok.chk (room_smD (by simp;omega)) (Ok.ret ⟨by simp;omega,fun y hy=>?_⟩)) fun _=>Ok.ret ⟨by simp;omega,hW.2⟩
 simp only [wD,xE] at hy
 rcases hy with hy|rfl
 ·exact hW.2 y hy
 ·omega
def whr (a:GEstate) (c t:Int):List Int:=(F_k a c t).getD []
theorem where_eq {a:GEstate} (g:Good a) {c:Int} (h0:0≤c) (h1:c≤63) (t:Int):F_k a c t=some (whr a c t):=by
 obtain ⟨W,h,_⟩:=where_ok g h0 h1 t
 simp [whr,h]
theorem whr_mem {a:GEstate} (g:Good a) {c:Int} (h0:0≤c) (h1:c≤63) (t:Int):∀x∈whr a c t,0≤x∧x≤a.Places - 1:=(where_ok g h0 h1 t).val (where_eq g h0 h1 t)
open Classical in
noncomputable def see (d:GDirectory) (a:GEstate) (p t x:Int):Bool :=
 if p=-1 then (lkf x t a.Events 0 (0,false)).2 else decide (mayP d a p x t)
theorem plgo {d:GDirectory} {a:GEstate} (g:GoodD d) (h:Good a) (p t:Int) (xs:List Int) (hx:∀x∈xs,0≤x∧x≤a.Places - 1) (k:Int) :
  forL (F_26 d a p t) xs k ()=some (flO (findL (fun x=>if see d a p t x then some (x,true) else none) xs)):=by
 refine forL_find _ xs k fun k x hm=>?_
 simp only [F_26,linked_eq t (known_of h (hx x hm).1 (hx x hm).2),xV,grp,may_eq g h]
 by_cases c:p=-1
 ·simp only [c,decide_true,Bool.true_and,wR,vC,see,if_true]
  cases (lkf x t a.Events 0 (0,false)).2<;>simp [flO]
 ·simp only [c,decide_false,Bool.false_and,wN,vC,vE,see,if_false]
  by_cases q:mayP d a p x t<;>simp [q,flO]
theorem findL_find {α ρ:Type} (p:α→Bool) (f:α→ρ):∀xs:List α,findL (fun x=>if p x then some (f x) else none) xs=(xs.find? p).map f
 | []=>rfl
 | x::r=>by
  simp only [findL,List.find?_cons]
  cases h:p x with
  | true=>simp
  | false=>simp [findL_find p f r]
noncomputable def pla (d:GDirectory) (a:GEstate) (c p t:Int):Option Int:=(whr a c t).find? (see d a p t)
theorem place_eqX {d:GDirectory} {a:GEstate} (g:GoodD d) (h:Good a) {c:Int} (h0:0≤c) (h1:c≤63) (p t:Int):F_1e d a c p t=some (fst0 (pla d a c p t)):=by
 simp only [F_1e,where_eq h h0 h1,xV,plgo g h p t _ (whr_mem h h0 h1 t),elim_flO,findL_find,pla]
 cases (whr a c t).find? (see d a p t)<;>rfl
noncomputable def sin (d:GDirectory) (a:GEstate) (c p:Int):Option Int:=(tms d a).find? fun t=>(pla d a c p t).isSome
theorem since_eq {d:GDirectory} {a:GEstate} (g:GoodD d) (h:Good a) {c:Int} (h0:0≤c) (h1:c≤63) (p:Int):F_1f d a c p=some (fst0 (sin d a c p)):=by
 simp only [F_1f,etimes_eq g h,xV]
 rw [forL_find (fun t=>if (pla d a c p t).isSome then some (t,true) else none) (tms d a) 0 fun k t _=>by
  simp only [F_2t,place_eqX g h h0 h1,xV]
  cases pla d a c p t<;>simp [fst0,flO]]
 simp only [xV,elim_flO,findL_find,sin]
 cases (tms d a).find? (fun t=>(pla d a c p t).isSome)<;>rfl
theorem echeck_eq {d:GDirectory} {a:GEstate} (g:GoodD d) (h:Good a) {c:Int} (h0:0≤c) (h1:c≤63):F_23 d a c=some 0:=by
 simp [F_23,F_i,dcheck_eq,check_eqA,g,h,F_5,among_eqA,h0,h1]
theorem Since_eq {d:GDirectory} {a:GEstate} (g:GoodD d) (h:Good a) {c:Int} (h0:0≤c) (h1:c≤63) (p:Int):F_v d a c p=some (fst0 (sin d a c p)):=by
 simp [F_v,echeck_eq g h h0 h1,since_eq g h h0 h1]
end Go.Ab
namespace Go.Ab
open Go.Proofs
end Go.Ab
namespace Go.Ab
open Go.Proofs
end Go.Ab
namespace Go.Ab
open Go.Proofs
def tb (w:Int) (c:Nat):Bool:=(BitVec.ofInt 64 w).getLsbD c
theorem ofInt_toNat64 (b:BitVec 64):BitVec.ofInt 64 (IntKind.wrap .u64 (b.toNat:Int))=b:=by
 apply BitVec.eq_of_toNat_eq
 have h:=b.isLt
 simp only [IntKind.wrap,IntKind.bits,IntKind.signed,BitVec.toNat_ofInt]
 simp
 omega
theorem tb_or (x y:Int) (c:Nat):tb (bits .or .u64 x y) c=(tb x c||tb y c):=by
 simp only [tb,bits,ofInt_toNat64,IntKind.bits]
 exact BitVec.getLsbD_or
theorem tb_andNot (x y:Int) {c:Nat} (hc:c<64):tb (bits .andNot .u64 x y) c=(tb x c&&!tb y c):=by
 simp only [tb,bits,ofInt_toNat64,IntKind.bits]
 have:∀a b:BitVec 64,(a &&& ~~~b).getLsbD c=(a.getLsbD c&&!b.getLsbD c):=fun a b=>by rw [BitVec.getLsbD_and,BitVec.getLsbD_not];simp [hc]
 exact this _ _
theorem tb_and (x y:Int) (c:Nat):tb (bits .and .u64 x y) c=(tb x c&&tb y c):=by
 simp only [tb,bits,ofInt_toNat64,IntKind.bits]
 exact BitVec.getLsbD_and
def msk (c:Int):Int:=IntKind.wrap .u64 (1*2^c.toNat)
theorem msk_bv {c:Int} (h1:c≤63):BitVec.ofInt 64 (msk c)=BitVec.twoPow 64 c.toNat:=by
 have h:c.toNat<64:=by omega
 have hp:2^c.toNat<2^64:=Nat.pow_lt_pow_right (by omega) h
 have e:(1*2^c.toNat:Int)=((2^c.toNat:Nat):Int):=by simp
 apply BitVec.eq_of_toNat_eq
 rw [BitVec.toNat_twoPow,BitVec.toNat_ofInt]
 unfold msk
 rw [e]
 generalize 2^c.toNat=m at hp
 simp only [IntKind.wrap,IntKind.bits,IntKind.signed]
 simp
 omega
theorem tb_msk {c:Int} (h0:0≤c) (h1:c≤63) (i:Nat) (hi:i<64):tb (msk c) i=decide ((i:Int)=c):=by
 have h:c.toNat<64:=by omega
 simp only [tb,msk_bv h1,BitVec.getLsbD_twoPow]
 by_cases e:(i:Int)=c
 ·have:c.toNat=i:=by omega
  simp [e,this,hi]
 ·have:¬c.toNat=i:=by omega
  simp [e,this]
theorem and_msk {c:Int} (h0:0≤c) (h1:c≤63) (x:Int):decide (bits .and .u64 x (msk c)=0)=!tb x c.toNat:=by
 have h:c.toNat<64:=by omega
 have e1:bits .and .u64 x (msk c)=((BitVec.ofInt 64 x &&& BitVec.ofInt 64 (msk c)).toNat:Int):=by
  have h2:bits .and .u64 x (msk c)=IntKind.wrap .u64 ((BitVec.ofInt 64 x &&& BitVec.ofInt 64 (msk c)).toNat:Int):=rfl
  have:=(BitVec.ofInt 64 x &&& BitVec.ofInt 64 (msk c)).isLt
  rw [h2]
  generalize (BitVec.ofInt 64 x &&& BitVec.ofInt 64 (msk c)).toNat=n at this
  simp only [IntKind.wrap,IntKind.bits,IntKind.signed]
  simp
  omega
 have e2:(bits .and .u64 x (msk c)=0)↔BitVec.ofInt 64 x &&& BitVec.ofInt 64 (msk c)=0#64:=by
  rw [e1]
  constructor
  ·intro h
   apply BitVec.eq_of_toNat_eq
   simp only [BitVec.toNat_ofNat]
   have:(BitVec.ofInt 64 x &&& BitVec.ofInt 64 (msk c)).toNat=0:=by omega
   rw [this]
  ·intro h;rw [h];rfl
 cases ht:tb x c.toNat with
 | true =>
  refine x8 fun h'=>?_
  have h2:=e2.1 h'
  have h3:tb (bits .and .u64 x (msk c)) c.toNat=false:=by rw [h'];simp [tb]
  rw [tb_and,ht,tb_msk h0 h1 _ h] at h3
  simp at h3
  omega
 | false =>
  refine wL (e2.2 ?_)
  rw [msk_bv h1]
  apply BitVec.eq_of_getLsbD_eq
  intro i hi
  rw [BitVec.getLsbD_and,BitVec.getLsbD_twoPow]
  by_cases q:c.toNat=i
  ·subst q
   have:(BitVec.ofInt 64 x).getLsbD c.toNat=false:=ht
   simp [this]
  ·simp [q]
def upd (s:Int→Bool) (p:Int) (b:Bool):Int→Bool:=fun i=>if i=p then b else s i
def cst (c:Int) (x:GAccess) (s:Int→Bool):Int→Bool :=
 if x.Kind=5 then upd s x.Place (s x.Place||decide (x.Content=c))
 else if x.Kind=6 then upd s x.Place (s x.Place&&!decide (x.Content=c))
 else if x.Kind=7 then upd s x.Place (s x.Place||s x.From)
 else s
def cfo (c t:Int) (E:List GAccess) (s:Int→Bool):Int→Bool:=E.foldl (fun s x=>if x.Time≤t then cst c x s else s) s
def hld (a:GEstate) (c t:Int):Int→Bool:=cfo c t a.Events fun _=>false
def wof (c:Int) (l:List Int) (s:Int→Bool):Prop:=∀i:Int,0≤i→i<l.length→tb (l.getD i.toNat default) c.toNat=s i
theorem wof_set {c:Int} {l:List Int} {s:Int→Bool} (h:wof c l s) {p w:Int} {b:Bool} (hp:0≤p) (hl:p<l.length) (hb:tb w c.toNat=b):wof c (l.set p.toNat w) (upd s p b):=by
 intro i h0 h1
 rw [List.length_set] at h1
 simp only [upd,zE,xN]
 by_cases e:i=p
 ·subst e
  simp [show i.toNat<l.length by omega,hb]
 ·rw [if_neg (by omega),if_neg e]
  have:=h i h0 h1
  rwa [zE] at this
theorem happen_cst {P c:Int} {l:List Int} {s:Int→Bool} {x:GAccess} (h0:0≤c) (h1:c≤63) (h:xok P x) (hl:(l.length:Int)=P) (hw:wof c l s):Ok (F_j l x) fun l'=>l'.length=l.length∧wof c l' (cst c x s):=by
 obtain ⟨_,_,h3,h4,h5⟩:=h
 have hp:inb x.Place l.length=true:=inb_iff.2 ⟨h3,by omega⟩
 have hc:c.toNat<64:=by omega
 have hP:=hw x.Place h3 (by omega)
 unfold F_j
 refine Ok.ite (fun q=>?_) fun q=>Ok.ite (fun q2=>?_) fun q2=>Ok.ite (fun q3=>?_) fun q3=>?_
 ·have q:x.Kind=5:=by simpa using q
  refine Ok.chk hp (Ok.bind (Ok.of (bit_eq (by omega) (by omega)) rfl) fun b hb=>Ok.chk hp (Ok.ret ⟨by simp,?_⟩))
  simp only [cst,if_pos q]
  refine wof_set hw h3 (by omega) ?_
  rw [tb_or,hP,←hb]
  congr 1
  rw [show IntKind.wrap .u64 (1*2^x.Content.toNat)=msk x.Content from rfl,tb_msk (by omega) (by omega) _ hc]
  exact decide_eq_decide.2 (by omega)
 ·have q:¬x.Kind=5:=by simpa using q
  have q2:x.Kind=6:=by simpa using q2
  refine Ok.chk hp (Ok.bind (Ok.of (bit_eq (by omega) (by omega)) rfl) fun b hb=>Ok.chk hp (Ok.ret ⟨by simp,?_⟩))
  simp only [cst,if_neg q,if_pos q2]
  refine wof_set hw h3 (by omega) ?_
  rw [tb_andNot _ _ hc,hP,←hb]
  congr 2
  rw [show IntKind.wrap .u64 (1*2^x.Content.toNat)=msk x.Content from rfl,tb_msk (by omega) (by omega) _ hc]
  exact decide_eq_decide.2 (by omega)
 ·have q:¬x.Kind=5:=by simpa using q
  have q2:¬x.Kind=6:=by simpa using q2
  have q3:x.Kind=7:=by simpa using q3
  have hf:inb x.From l.length=true:=inb_iff.2 ⟨by omega,by omega⟩
  refine Ok.chk hp (Ok.chk hf (Ok.chk hp (Ok.ret ⟨by simp,?_⟩)))
  simp only [cst,if_neg q,if_neg q2,if_pos q3]
  refine wof_set hw h3 (by omega) ?_
  rw [tb_or,hP,hw x.From (by omega) (by omega)]
 ·have q:¬x.Kind=5:=by simpa using q
  have q2:¬x.Kind=6:=by simpa using q2
  have q3:¬x.Kind=7:=by simpa using q3
  simp only [cst,if_neg q,if_neg q2,if_neg q3]
  exact Ok.ret ⟨rfl,hw⟩
theorem cat_hld {a:GEstate} (g:Good a) {c:Int} (h0:0≤c) (h1:c≤63) (t:Int):Ok (F_1d a t) fun l=>(l.length:Int)=a.Places∧wof c l (hld a c t):=by
 have h2:=g.lo
 have h3:=g.hi
 unfold F_1d
 refine Ok.chk (roomI_iff.2 ⟨by omega,by omega,by omega⟩) (Ok.bind (Ok.foldI (all:=a.Events) (fun pre l=>(l.length:Int)=a.Places∧wof c l (cfo c t pre fun _=>false)) a.Events [] 0 _ rfl rfl ⟨by simp;omega,fun i hi hl=>?_⟩ (fun pre x r s hw hs=>?_) fun s hs=>hs) fun s hs=>Ok.ret hs)
 ·simp only [cfo,List.foldl_nil,List.length_replicate] at hl ⊢
  rw [zE,List.getElem?_replicate,if_pos (by omega)]
  simp [tb]
 ·unfold F_25
  have hx:=g.ev x (by rw [hw];simp)
  refine Ok.ite (fun q=>Ok.bind (happen_cst h0 h1 hx hs.1 hs.2) fun y hy=>Ok.ret ⟨by rw [hy.1];exact hs.1,?_⟩) fun q=>Ok.ret ⟨hs.1,?_⟩
  ·have q:x.Time≤t:=by simpa using q
   simp only [cfo,List.foldl_append,wG,List.foldl_nil,if_pos q]
   exact hy.2
  ·have q:¬x.Time≤t:=by simpa using q
   simp only [cfo,List.foldl_append,wG,List.foldl_nil,if_neg q]
   exact hs.2
theorem whr_eq {a:GEstate} (g:Good a) {c:Int} (h0:0≤c) (h1:c≤63) (t:Int):whr a c t=((List.range a.Places.toNat).filter fun i:Nat=>hld a c t i).map fun i:Nat=>(i:Int):=by
 have hc:F_5 c=some true:=by simp [F_5,among_eqA,h0,h1]
 have h2:=g.hi
 have h3:=g.lo
 refine Ok.val (Q:=fun W=>W=((List.range a.Places.toNat).filter fun i:Nat=>hld a c t i).map fun i:Nat=>(i:Int)) ?_ (where_eq g h0 h1 t)
 simp only [F_k,check_eqA,if_pos g,xV,decide_true,wR,vC,hc]
 refine Ok.bind (cat_hld g h0 h1 t) fun s hs=>Ok.bind (Ok.foldI (all:=s) (fun pre W=>W=((List.range pre.length).filter fun i:Nat=>hld a c t i).map fun i:Nat=>(i:Int)) s [] 0 _ rfl rfl rfl (fun pre x r W hw hW=>?_) fun W hW=>by rw [hW,show s.length=a.Places.toNat by omega]) fun W hW=>Ok.ret hW
 subst hW
 unfold F_3o
 have hp:pre.length<s.length:=by rw [hw];simp
 have hx:=hs.2 (pre.length:Int) (by omega) (by omega)
 rw [xR,show s.getD pre.length default=x by rw [hw];simp] at hx
 have hlen:(((List.range pre.length).filter fun i:Nat=>hld a c t i).map fun i:Nat=>(i:Int)).length≤pre.length:=by
  rw [wF];exact wX (List.length_filter_le _ _) (by simp)
 refine Ok.bind (Ok.of (bit_eq h0 h1) rfl) fun b hb=>?_
 rw [←hb,show IntKind.wrap .u64 (1*2^c.toNat)=msk c from rfl,and_msk h0 h1,hx,Bool.not_not]
 simp only [xG,zU,List.range_succ,List.filter_append,List.map_append]
 cases q:hld a c t (pre.length:Int) with
 | false=>simp only [vC];exact Ok.ret (by simp [q])
 | true =>
  simp only [vE]
  exact Ok.chk (room_smD (by simp only [wF] at hlen ⊢;omega)) (Ok.ret (by simp [q]))
end Go.Ab
namespace Go.Ab
open Go.Proofs
def cutA (a:GEstate) (t:Int):GEstate:=⟨a.Places,a.Events.filter fun x=>decide (x.Time≤t)⟩
def cutD (d:GDirectory) (t:Int):GDirectory:=⟨d.Kinds,d.Events.filter fun x=>decide (x.Time≤t)⟩
theorem Good.cut {a:GEstate} (g:Good a) (t:Int):Good (cutA a t):=g.sub List.filter_sublist
theorem GoodD.cut {d:GDirectory} (g:GoodD d) (t:Int):GoodD (cutD d t) :=
 ⟨g.kl,wX (List.length_filter_le _ _) g.el,g.kd,fun x hx=>g.ev x (wC.1 hx).1,g.srt.sublist List.filter_sublist⟩
end Go.Ab
namespace Go.Ab
open Go.Proofs
theorem rin_eq (n lo hi:Int):F_8 n lo hi=some (decide (lo≤n∧n≤hi)):=by simp [F_8,grp]
open Classical in
theorem event_eqA (a:GEstate) (x:GAccess) (h1:1≤a.Places) (h2:a.Places≤16):F_2x a x=some (decide (xok a.Places x)):=by
 have hin:∀o:Option Bool,chk (in64 (a.Places - 1)) o=o:=fun o=>chk_true (in64_sm (n:=a.Places - 1) (by omega) (by omega))
 obtain ⟨T,K,P,pr,U,C,F⟩:=x
 simp only [F_2x,rin_eq,xV,jn,grp,hin,decide_true,Bool.true_and]
 by_cases t1:0≤T∧T≤1099511627776
 ·by_cases t2:0≤P∧P≤a.Places - 1
  ·simp only [t1,t2,and_self,decide_true,wR,vC]
   by_cases k1:K=1
   ·subst k1
    by_cases c1:U=0<;>by_cases c2:C=0<;>by_cases c3:F=0<;>simp [xok,c1,c2,c3,t1,t2]
   by_cases k2:K=2
   ·subst k2
    by_cases c1:U=0<;>by_cases c2:C=0<;>by_cases c3:F=0<;>simp [xok,c1,c2,c3,t1,t2]
   by_cases k3:K=3
   ·subst k3
    by_cases c1:pr=0<;>by_cases c2:C=0<;>by_cases c3:F=0<;>by_cases c4:T<U<;>simp [xok,c1,c2,c3,c4,t1,t2]
   by_cases k4:K=4
   ·subst k4
    by_cases c1:pr=0<;>by_cases c2:C=0<;>by_cases c3:F=0<;>by_cases c4:U=0<;>simp [xok,c1,c2,c3,c4,t1,t2]
   by_cases k5:K=5
   ·subst k5
    by_cases c1:pr=0<;>by_cases c2:U=0<;>by_cases c3:F=0<;>simp [xok,c1,c2,c3,t1,t2]
   by_cases k6:K=6
   ·subst k6
    by_cases c1:pr=0<;>by_cases c2:U=0<;>by_cases c3:F=0<;>simp [xok,c1,c2,c3,t1,t2]
   by_cases k7:K=7
   ·subst k7
    by_cases c1:pr=0<;>by_cases c2:U=0<;>by_cases c3:C=0<;>by_cases c4:F=P<;>simp [xok,c1,c2,c3,c4,t1,t2]<;>omega
   ·simp [xok,k1,k2,k3,k4,k5,k6,k7,t1,t2]
  ·have:¬xok a.Places ⟨T,K,P,pr,U,C,F⟩:=fun h=>t2 ⟨h.2.2.1,h.2.2.2.1⟩
   simp [t1,t2,this]
 ·have:¬xok a.Places ⟨T,K,P,pr,U,C,F⟩:=fun h=>t1 ⟨h.1,h.2.1⟩
  simp [t1,this]
open Classical in
theorem validL_eq (a:GEstate) (h1:1≤a.Places) (h2:a.Places≤16) (hn:a.Events.length≤120):∀(l:List GAccess) (k:Nat) (last:Int),a.Events.drop k=l→(0<k→(a.Events.getD (k - 1) default).Time=last)→(k=0→last=0)→k≤a.Events.length →
  forL (F_3q a) l (k:Int) ()=some (if chain a.Places last l then .nx () else .ex false)
 | [],k,last,hd,hl,h0,hk=>by simp [forL,chain]
 | x :: r,k,last,hd,hl,h0,hk=>by
  have hlt:k<a.Events.length:=by
   rcases Nat.lt_or_ge k a.Events.length with h|h
   ·exact h
   ·rw [List.drop_eq_nil_of_le h] at hd;cases hd
  rw [List.drop_eq_getElem_cons hlt] at hd
  obtain ⟨e1,e2⟩:=List.cons.inj hd
  have hx:(a.Events.getD (k+1 - 1) default)=x:=by rw [Nat.add_sub_cancel,zE,zJ hlt];exact e1
  have ih:=fun last h=>validL_eq a h1 h2 hn r (k+1) last e2 h (by omega) hlt
  simp only [forL,F_3q,event_eqA a x h1 h2,xV,chain]
  by_cases c:xok a.Places x
  ·simp only [c,decide_true,wR,vC,true_and]
   have ih':=ih x.Time (fun _=>by rw [hx])
   rw [show ((k+1:Nat):Int)=(k:Int)+1 by simp] at ih'
   by_cases ck:0<k
   ·have e3:decide (0<(k:Int))=true:=wL (by omega)
    have e4:in64 ((k:Int) - 1)=true:=in64_sm (by omega) (by omega)
    have e5:inb ((k:Int) - 1) a.Events.length=true:=inb_iff.2 ⟨by omega,by omega⟩
    have e6:((k:Int) - 1).toNat=k - 1:=by omega
    simp only [e3,vE,chk_true e4,chk_true e5,e6,hl ck]
    by_cases c3:x.Time<last
    ·have:¬last≤x.Time:=by omega
     simp [c3,this,Fl_ex]
    ·have:last≤x.Time:=by omega
     simp [c3,this,Fl_nx,ih']
   ·have e3:decide (0<(k:Int))=false:=x8 (by omega)
    have hk0:k=0:=by omega
    have:last≤x.Time:=by rw [h0 hk0];exact c.1
    simp only [e3,vC,xV,Fl_nx,this,true_and,ih']
  ·simp [c,Fl_ex]
open Classical in
theorem valid_eq (a:GEstate):F_l a=some (decide (Good a)):=by
 simp only [F_l,rin_eq,xV,grp]
 by_cases c:1≤a.Places∧a.Places≤16
 ·by_cases c2:a.Events.length≤120
  ·have c':(!decide (1≤a.Places∧a.Places≤16)||decide (120<(a.Events.length:Int)))=false:=by simp [c];omega
   have h:=validL_eq a c.1 c.2 c2 a.Events 0 0 rfl (fun h=>by omega) (fun _=>rfl) (by omega)
   simp only [show ((0:Nat):Int)=0 from rfl] at h
   simp only [c',vC,h,xV]
   by_cases hc:chain a.Places 0 a.Events
   ·have:Good a:=(good_iff a).2 ⟨c,c2,hc⟩
    simp [this,hc,Fl_nx]
   ·have:¬Good a:=fun h=>hc ((good_iff a).1 h).2.2
    simp [this,hc,Fl_ex]
  ·have c':(!decide (1≤a.Places∧a.Places≤16)||decide (120<(a.Events.length:Int)))=true:=by simp;omega
   have:¬Good a:=fun h=>c2 h.len
   simp only [c',vE,this,decide_false]
 ·have:¬Good a:=fun h=>c ⟨h.lo,h.hi⟩
  simp [c,this]
open Classical in
theorem rplace_eq (a:GEstate) (p:Int):F_x a p=F_1 a p:=by
 rw [known_eq]
 simp only [F_x,valid_eq,xV,jn]
 by_cases h:Good a
 ·have:=h.lo;have:=h.hi
  simp [h,rin_eq,chk_true (in64_sm (n:=a.Places - 1) (by omega) (by omega))]
 ·simp [h]
theorem known_cases (a:GEstate) (p:Int):(F_1 a p=some true∧Good a∧0≤p∧p≤a.Places - 1)∨F_1 a p=some false:=by
 classical
 rw [known_eq]
 by_cases h:Good a∧0≤p∧p≤a.Places - 1
 ·left;exact ⟨congrArg some (wL h),h⟩
 ·right;exact congrArg some (x8 h)
theorem aget_aput {β:Type} (q k:Int) (v:β):∀m:List (Int×β),aget q (aput k v m)=if q=k then some v else aget q m
 | []=>by by_cases e:q=k<;>simp [aput,aget,e]
 | (a,b)::r=>by
  by_cases e:k=a
  ·subst e
   by_cases e2:q=k<;>simp [aput,aget,e2]
  ·simp only [aput,if_neg e,aget,aget_aput q k v r]
   by_cases e2:q=a
   ·subst e2
    have:¬q=k:=fun h=>e h.symm
    simp [this]
   ·simp [e2]
theorem aget_none {β:Type} {q:Int}:∀{m:List (Int×β)},q∉m.map Prod.fst→aget q m=none
 | [],h=>rfl
 | (a,b)::r,h=>by
  simp only [wQ,wP,not_or] at h
  simp only [aget,if_neg h.1,aget_none h.2]
theorem aget_some {β:Type} {q:Int}:∀{m:List (Int×β)},q∈m.map Prod.fst→∃v,aget q m=some v
 | (a,b)::r,h=>by
  by_cases e:q=a
  ·exact ⟨b,by simp [aget,e]⟩
  ·have:q∈r.map Prod.fst:=by simpa [e] using h
   obtain ⟨v,hv⟩:=aget_some this
   exact ⟨v,by simp [aget,e,hv]⟩
theorem aget_isSome {β:Type} (q:Int) (m:List (Int×β)):(aget q m).isSome=decide (q∈m.map Prod.fst):=by
 by_cases h:q∈m.map Prod.fst
 ·obtain ⟨v,hv⟩:=aget_some h
  rw [hv];exact (wL h).symm
 ·rw [aget_none h];exact (x8 h).symm
theorem aget_adel {β:Type} (q k:Int):∀m:List (Int×β),(m.map Prod.fst).Nodup→aget q (adel k m)=if q=k then none else aget q m
 | [],h=>by simp [adel,aget]
 | (a,b)::r,h=>by
  simp only [wQ,List.nodup_cons] at h
  by_cases e:k=a
  ·subst e
   by_cases e2:q=k
   ·subst e2
    simp only [adel,if_true]
    exact aget_none h.1
   ·simp [adel,aget,e2]
  ·simp only [adel,if_neg e,aget,aget_adel q k r h.2]
   by_cases e2:q=a
   ·subst e2
    have:¬q=k:=fun h=>e h.symm
    simp [this]
   ·simp [e2]
theorem grf_nodup (p t:Int) (l:List GAccess):((grf p t l).map Prod.fst).Nodup:=by rw [grf_keys];exact keysf_nodup p t l
theorem grf_snoc (p t:Int) (l:List GAccess) (x:GAccess):grf p t (l++[x])=gst p t l.length x (grf p t l):=by
 simp only [grf,foldP_append,foldP,Int.zero_add]
def told (p t q:Int) (l:List GAccess) (n:Nat):Prop :=
 n<l.length∧(l.getD n default).Kind=1∧(l.getD n default).Place=p∧(l.getD n default).Principal=q∧(l.getD n default).Time≤t∧∀y∈l.drop (n+1),¬(y.Kind=2∧y.Place=p∧y.Principal=q∧y.Time≤t)
theorem told_snoc {p t q:Int} {l:List GAccess} {n:Nat} {x:GAccess} (h:told p t q l n) (hx:¬(x.Kind=2∧x.Place=p∧x.Principal=q∧x.Time≤t)):told p t q (l++[x]) n:=by
 obtain ⟨h1,h2,h3,h4,h5,h6⟩:=h
 have e:(l++[x]).getD n default=l.getD n default:=by rw [zE,zE,zH h1]
 refine ⟨by simp;omega,by rw [e];exact h2,by rw [e];exact h3,by rw [e];exact h4,by rw [e];exact h5,fun y hy=>?_⟩
 rw [List.drop_append_of_le_length (by omega),wD,xE] at hy
 rcases hy with hy|rfl
 ·exact h6 y hy
 ·exact hx
theorem grant_told (p t q:Int) (l:List GAccess) (k:Int) (h:aget q (grf p t l)=some k):∃n:Nat,k=n∧told p t q l n:=by
 induction l using revList_ind generalizing k with
 | h0=>cases h
 | h1 l x ih =>
  rw [grf_snoc] at h
  unfold gst at h
  split at h
  ·rename_i c
   obtain ⟨n,e,hn⟩:=ih k h
   exact ⟨n,e,told_snoc hn (by omega)⟩
  ·rename_i c
   split at h
   ·rename_i c2
    rw [aget_aput] at h
    split at h
    ·rename_i c3
     cases h
     refine ⟨l.length,rfl,by simp,?_⟩
     have e:(l++[x]).getD l.length default=x:=by simp
     rw [e]
     refine ⟨c2,by omega,c3.symm,by omega,fun y hy=>?_⟩
     rw [List.drop_eq_nil_of_le (by simp)] at hy
     cases hy
    ·obtain ⟨n,e,hn⟩:=ih k h
     exact ⟨n,e,told_snoc hn (by omega)⟩
   ·split at h
    ·rw [aget_adel _ _ _ (grf_nodup p t l)] at h
     split at h
     ·cases h
     ·rename_i c3
      obtain ⟨n,e,hn⟩:=ih k h
      exact ⟨n,e,told_snoc hn fun hh=>c3 hh.2.2.1.symm⟩
    ·obtain ⟨n,e,hn⟩:=ih k h
     exact ⟨n,e,told_snoc hn (by omega)⟩
open Classical in
theorem rreader_eq {d:GDirectory} (g:GoodD d) (p:Int):F_28 d p=some (decide (rdr d p)):=by
 have hk:=g.kl
 have hx:F_7 d p=some (decide (0≤p∧p<d.Kinds.length)):=by
  unfold F_7
  rw [chk_true (in64_smD (by omega) (by omega))]
  simp only [F_f,grp,xV]
  congr 1
  by_cases q:0≤p∧p<(d.Kinds.length:Int)
  ·rw [wL q,wL q.1,wL (show p≤(d.Kinds.length:Int) - 1 by omega)];rfl
  ·rw [x8 q]
   by_cases q1:0≤p
   ·rw [wL q1,x8 (show ¬p≤(d.Kinds.length:Int) - 1 by omega)];rfl
   ·rw [x8 q1];rfl
 unfold F_28
 simp only [hx,xV,jn]
 by_cases q:0≤p∧p<(d.Kinds.length:Int)
 ·simp only [wL q,vE,chk_true (inb_iff.2 q),xV]
  by_cases w:d.Kinds.getD p.toNat default=2
  ·have:¬rdr d p:=fun h=>h.2.2 w
   rw [wL w,x8 this];rfl
  ·have:rdr d p:=⟨q.1,q.2,w⟩
   rw [x8 w,wL this];rfl
 ·have:¬rdr d p:=fun h=>q ⟨h.1,h.2.1⟩
  simp [x8 q,this]
end Go.Ab
namespace Go.Ab
open Go.Proofs
def rgst (p q t:Int) (i:Int) (x:GAccess) (s:Int):Int :=
 if t<x.Time∨x.Place≠p∨x.Principal≠q then s else if x.Kind=1 then i else if x.Kind=2 then -1 else s
theorem rgst_body (p q t k:Int) (x:GAccess) (s:Int):F_3r p q t k x s=some (rgst p q t k x s):=by
 simp only [F_3r,grp,rgst]
 by_cases c:t<x.Time∨x.Place≠p∨x.Principal≠q
 ·have c':(decide (t<x.Time)||!decide (x.Place=p)||!decide (x.Principal=q))=true:=by
   simp only [wJ,xK,xS,zK];omega
  simp only [c',vE,if_pos c]
 ·have c':(decide (t<x.Time)||!decide (x.Place=p)||!decide (x.Principal=q))=false:=by
   simp only [xA,zK,Bool.not_eq_false',xK];omega
  simp only [c',vC,if_neg c]
  by_cases c2:x.Kind=1
  ·simp [c2]
  ·by_cases c3:x.Kind=2<;>simp [c2,c3]
theorem rgrant_aget (p q t:Int) (l:List GAccess):foldP (rgst p q t) l 0 (-1)=(aget q (grf p t l)).getD (-1):=by
 induction l using revList_ind with
 | h0=>rfl
 | h1 l x ih =>
  rw [foldP_append,grf_snoc]
  simp only [foldP,Int.zero_add,ih,rgst,gst]
  by_cases c:t<x.Time∨x.Place≠p
  ·rw [if_pos (by omega),if_pos c]
  ·rw [if_neg c]
   by_cases cq:x.Principal=q
   ·rw [if_neg (by omega)]
    by_cases c2:x.Kind=1
    ·rw [if_pos c2,if_pos c2,aget_aput,if_pos cq.symm];rfl
    ·rw [if_neg c2,if_neg c2]
     by_cases c3:x.Kind=2
     ·rw [if_pos c3,if_pos c3,aget_adel _ _ _ (grf_nodup p t l),if_pos cq.symm];rfl
     ·rw [if_neg c3,if_neg c3]
   ·have cq':¬q=x.Principal:=fun h=>cq h.symm
    rw [if_pos (by omega)]
    by_cases c2:x.Kind=1
    ·rw [if_pos c2,aget_aput,if_neg cq']
    ·rw [if_neg c2]
     by_cases c3:x.Kind=2
     ·rw [if_pos c3,aget_adel _ _ _ (grf_nodup p t l),if_neg cq']
     ·rw [if_neg c3]
theorem rgrantx_eq (a:GEstate) (p q t:Int):F_2z a p q t=some ((aget q (grf p t a.Events)).getD (-1)):=by
 simp only [F_2z,foldL_plain (rgst p q t) (rgst_body p q t),xV,rgrant_aget]
theorem aget_nonneg {p t q k:Int} {l:List GAccess} (h:aget q (grf p t l)=some k):0≤k:=by
 obtain ⟨n,rfl,_⟩:=grant_told p t q l k h;omega
theorem pairwise_range (n:Nat):((List.range n).map fun i:Nat=>(i:Int)).Pairwise fun x y=>x<y:=by
 rw [List.pairwise_map]
 exact List.pairwise_lt_range.imp fun h=>by omega
theorem rGranted_eq (a:GEstate) (p t:Int):F_2a a p t=F_e a p t:=by
 simp only [F_2a,rplace_eq]
 rcases known_cases a p with ⟨h,g,_⟩|h
 ·rw [granted_eq t g.len h,h]
  simp only [xV,wR,vC]
  have key:∀q:Int,decide (0≤(aget q (grf p t a.Events)).getD (-1))=decide (q∈keysf p t a.Events):=fun q=>by
   have e:(aget q (grf p t a.Events)).isSome=decide (q∈keysf p t a.Events):=by rw [aget_isSome,grf_keys]
   rw [←e]
   cases ha:aget q (grf p t a.Events) with
   | none=>rfl
   | some k=>simpa using aget_nonneg ha
  refine Ok.eq (Ok.bind (Ok.loop (Q:=fun r=>r=srtI (keysf p t a.Events)) (fun x=>0≤x.1∧x.1≤24∧x.2=((List.range x.1.toNat).map fun i:Nat=>(i:Int)).filter fun q=>decide (q∈keysf p t a.Events)) (fun x=>(24 - x.1).toNat) (fun x hx=>?_) _ ⟨by omega,by omega,rfl⟩) fun r hr=>Ok.ret hr)
  obtain ⟨i,out⟩:=x
  obtain ⟨h1,h2,h3⟩:=hx
  simp only at h1 h2 h3
  subst h3
  have hl:=List.length_filter_le (fun q=>decide (q∈keysf p t a.Events)) ((List.range i.toNat).map fun i:Nat=>(i:Int))
  simp only [wF,List.length_range] at hl
  unfold F_4l
  refine Ok.ite (fun c=>?_) fun c=>?_
  ·have c:i<24:=by simpa using c
   rw [rgrantx_eq]
   simp only [xV,key]
   have e1:(i+1).toNat=i.toNat+1:=by omega
   refine Ok.jn (P:=fun j=>j=((List.range (i+1).toNat).map fun i:Nat=>(i:Int)).filter fun q=>decide (q∈keysf p t a.Events)) (Ok.ite (fun cc=>Ok.chk (room_smD (by simp only [zU];omega)) (Ok.ret ?_)) fun cc=>Ok.ret ?_) fun j hj=>?_
   ·rw [e1,List.range_succ,List.map_append,List.filter_append]
    have e2:((i.toNat:Nat):Int)=i:=by omega
    simp only [wQ,w5,e2,List.filter_cons,cc,if_true,List.filter_nil]
   ·rw [e1,List.range_succ,List.map_append,List.filter_append]
    have e2:((i.toNat:Nat):Int)=i:=by omega
    simp [e2,cc]
   ·refine Ok.chk (in64_sm (by omega) (by omega)) (Ok.ret ?_)
    exact ⟨⟨by show 0≤i+1;omega,by show i+1≤24;omega,hj⟩,by show (24 - (i+1)).toNat<(24 - i).toNat;omega⟩
  ·have c:¬i<24:=by simpa using c
   have:i=24:=by omega
   subst this
   refine Ok.ret ?_
   show _=_
   have hsr:(((List.range (Int.toNat 24)).map fun i:Nat=>(i:Int)).filter fun q=>decide (q∈keysf p t a.Events)).Pairwise (fun x y=>x≤y):=List.Pairwise.filter _ ((pairwise_range 24).imp fun h=>w6 h)
   refine sorted_unique ?_ hsr (srtI_sorted _)
   refine List.Perm.trans ?_ (srtI_perm _).symm
   refine (List.perm_ext_iff_of_nodup ?_ (keysf_nodup p t a.Events)).2 fun q=>?_
   ·exact List.Pairwise.filter _ ((pairwise_range 24).imp fun h=>Int.ne_of_lt h)
   ·simp only [wC,w4,List.mem_range,xK]
    constructor
    ·rintro ⟨_,h⟩;exact h
    ·intro hq
     refine ⟨?_,hq⟩
     obtain ⟨w,hw,hw1,hw2,_⟩:=keysf_mem hq
     have:=(g.ev w hw).2.2.2.2
     exact ⟨q.toNat,by show q.toNat<(24:Int).toNat;omega,by omega⟩
 ·simp [h,F_e]
def unl (p t:Int) (y:GAccess):Prop:=y.Kind=4∧y.Place=p∧y.Time≤t
def lnk (p t:Int) (x:GAccess):Prop:=x.Kind=3∧x.Place=p∧x.Time≤t∧t<x.Until
def openP (p t:Int) (l:List GAccess) (k:Nat):Prop:=lnk p t (l.getD k default)∧∀y∈l.drop (k+1),¬unl p t y
open Classical in
noncomputable def refL (p t:Int) (l:List GAccess):Nat→Int×Bool
 | 0=>(0,false)
 | n+1=>if openP p t l n then ((n:Int),true) else refL p t l n
theorem openP_snoc {p t:Int} {l:List GAccess} {x:GAccess} {k:Nat} (hk:k<l.length):openP p t (l++[x]) k↔openP p t l k∧¬unl p t x:=by
 unfold openP
 rw [show (l++[x]).getD k default=l.getD k default by rw [zE,zE,zH hk],List.drop_append_of_le_length (by omega)]
 simp only [wD,xE]
 constructor
 ·rintro ⟨h1,h2⟩
  exact ⟨⟨h1,fun y hy=>h2 y (.inl hy)⟩,h2 x (.inr rfl)⟩
 ·rintro ⟨⟨h1,h2⟩,h3⟩
  refine ⟨h1,fun y hy=>?_⟩
  rcases hy with hy|rfl
  ·exact h2 y hy
  ·exact h3
theorem refL_snoc {p t:Int} {l:List GAccess} {x:GAccess}:∀{n:Nat},n≤l.length→(unl p t x→refL p t (l++[x]) n=(0,false))∧(¬unl p t x→refL p t (l++[x]) n=refL p t l n)
 | 0,h=>⟨fun _=>rfl,fun _=>rfl⟩
 | n+1,h=>by
  have ih:=refL_snoc (p:=p) (t:=t) (l:=l) (x:=x) (n:=n) (by omega)
  constructor
  ·intro hu
   have:¬openP p t (l++[x]) n:=fun h'=>((openP_snoc (by omega)).1 h').2 hu
   simp only [refL,if_neg this,ih.1 hu]
  ·intro hu
   have:openP p t (l++[x]) n↔openP p t l n:=by rw [openP_snoc (by omega)];exact ⟨fun h=>h.1,fun h=>⟨h,hu⟩⟩
   by_cases hh:openP p t l n
   ·simp only [refL,if_pos (this.2 hh),if_pos hh]
   ·simp only [refL,if_neg (fun h=>hh (this.1 h)),if_neg hh,ih.2 hu]
theorem refL_lkf (p t:Int) (l:List GAccess):refL p t l l.length=lkf p t l 0 (0,false):=by
 induction l using revList_ind with
 | h0=>rfl
 | h1 l x ih =>
  rw [xG,zU,lkf_append]
  simp only [lkf,Int.zero_add,refL]
  have e:(l++[x]).getD l.length default=x:=by simp
  have ho:openP p t (l++[x]) l.length↔lnk p t x:=by
   unfold openP
   rw [e,List.drop_eq_nil_of_le (by simp)]
   simp
  rw [←ih]
  have hs:=refL_snoc (p:=p) (t:=t) (l:=l) (x:=x) (w9 l.length)
  unfold lst
  by_cases hl:lnk p t x
  ·rw [if_pos (ho.2 hl)]
   obtain ⟨h1,h2,h3,h4⟩:=hl
   rw [if_neg (by omega),if_neg (by omega),if_pos ⟨h1,h4⟩]
  ·rw [if_neg fun h=>hl (ho.1 h)]
   by_cases hu:unl p t x
   ·rw [hs.1 hu]
    obtain ⟨h1,h2,h3⟩:=hu
    rw [if_neg (by omega),if_pos h1]
   ·rw [hs.2 hu]
    by_cases c:t<x.Time∨x.Place≠p
    ·rw [if_pos c]
    ·rw [if_neg c]
     have:¬x.Kind=4:=fun h=>hu ⟨h,by omega,by omega⟩
     rw [if_neg this]
     have:¬(x.Kind=3∧t<x.Until):=fun h=>hl ⟨h.1,by omega,by omega,h.2⟩
     rw [if_neg this]
open Classical in
theorem findU (p t:Int):∀m:List GAccess,findL (fun y=>if unl p t y then some false else none) m=if ∀y∈m,¬unl p t y then none else some false
 | []=>by simp [findL]
 | y :: r=>by
  by_cases hu:unl p t y
  ·have:¬∀z∈y::r,¬unl p t z:=fun h=>h y (by simp) hu
   rw [if_neg this]
   simp only [findL,if_pos hu]
  ·simp only [findL,if_neg hu,findU p t r]
   by_cases hr:∀z∈r,¬unl p t z
   ·have:∀z∈y::r,¬unl p t z:=fun z hz=>by
     rcases wP.1 hz with rfl|hz
     ·exact hu
     ·exact hr z hz
    rw [if_pos hr,if_pos this]
   ·have:¬∀z∈y::r,¬unl p t z:=fun h=>hr fun z hz=>h z (by simp [hz])
    rw [if_neg hr,if_neg this]
open Classical in
theorem open_ex {a:GEstate} {p t:Int} (hn:a.Events.length≤120) (h:F_1 a p=some true) {k:Nat} (hk:k<a.Events.length):∃b,F_1h a p (k:Int) t=some b∧(b=true↔openP p t a.Events k):=by
 have i1:in64 ((a.Events.length:Int) - 1)=true:=in64_sm (by omega) (by omega)
 have i2:decide (0≤(k:Int)∧(k:Int)≤(a.Events.length:Int) - 1)=true:=wL (by omega)
 have i3:inb (k:Int) a.Events.length=true:=inb_iff.2 ⟨by omega,by omega⟩
 have i4:in64 ((k:Int)+1)=true:=in64_sm (by omega) (by omega)
 have i5:inc ((k:Int)+1) (a.Events.length:Int) a.Events.length=true:=inc_iff.2 ⟨by omega,by omega,by omega⟩
 have i6:((k:Int)+1).toNat=k+1:=by omega
 simp only [F_1h,rplace_eq,h,xV,wR,vC,chk_true i1,rin_eq,i2,chk_true i3,chk_true i4,chk_true i5,i6,xR,grp]
 by_cases c1:lnk p t (a.Events.getD k default)
 ·have c1':=c1
  unfold lnk at c1'
  have e:(!decide ((a.Events.getD k default).Kind=3)||!decide ((a.Events.getD k default).Place=p)||decide (t<(a.Events.getD k default).Time)||decide ((a.Events.getD k default).Until≤t))=false:=by
   simp only [xA,zK,Bool.not_eq_false',xK];omega
  simp only [e,vC]
  rw [forL_find (fun y=>if unl p t y then some false else none) (a.Events.drop (k+1)) 0 fun k y _=>by
   simp only [F_4k,grp]
   by_cases hu:unl p t y
   ·have e:(decide (y.Kind=4)&&decide (y.Place=p)&&decide (y.Time≤t))=true:=by
     simp only [x5,xK];exact ⟨⟨hu.1,hu.2.1⟩,hu.2.2⟩
    simp only [e,vE,if_pos hu,flO]
   ·have e:(decide (y.Kind=4)&&decide (y.Place=p)&&decide (y.Time≤t))=false:=by
     cases hh:(decide (y.Kind=4)&&decide (y.Place=p)&&decide (y.Time≤t)) with
     | false=>rfl
     | true =>
      simp only [x5,xK] at hh
      exact absurd ⟨hh.1.1,hh.1.2,hh.2⟩ hu
    simp only [e,vC,if_neg hu,flO]]
  simp only [xV,elim_flO,findU]
  by_cases hr:∀y∈a.Events.drop (k+1),¬unl p t y
  ·simp only [if_pos hr]
   exact ⟨true,rfl,fun _=>⟨c1,hr⟩,fun _=>rfl⟩
  ·simp only [if_neg hr]
   exact ⟨false,rfl,iff_of_false (by simp) fun h=>hr h.2⟩
 ·have e:(!decide ((a.Events.getD k default).Kind=3)||!decide ((a.Events.getD k default).Place=p)||decide (t<(a.Events.getD k default).Time)||decide ((a.Events.getD k default).Until≤t))=true:=by
   unfold lnk at c1
   simp only [wJ,xK,xS,zK];omega
  simp only [e,vE]
  exact ⟨false,rfl,iff_of_false (by simp) fun h=>c1 h.1⟩
open Classical in
theorem open_eq {a:GEstate} {p t:Int} (hn:a.Events.length≤120) (h:F_1 a p=some true) {k:Nat} (hk:k<a.Events.length):F_1h a p (k:Int) t=some (decide (openP p t a.Events k)):=by
 obtain ⟨b,hb,hb2⟩:=open_ex (t:=t) hn h hk
 rw [hb]
 by_cases c:openP p t a.Events k
 ·rw [hb2.2 c,wL c]
 ·have:b=false:=by cases b with
   | false=>rfl
   | true=>exact absurd (hb2.1 rfl) c
  rw [this,x8 c]
theorem rLinkedL {a:GEstate} {p t:Int} (hn:a.Events.length≤120) (h:F_1 a p=some true):∀{n:Nat},n≤a.Events.length→∃r,loop (F_1i a p t) ((n:Int) - 1)=some r∧Sum.elim (fun _=>some (0,false)) (fun u=>some u) r=some (refL p t a.Events n)
 | 0,hl=>by
  rw [loop_eq]
  simp only [F_1i]
  exact ⟨.inl (),rfl,rfl⟩
 | n+1,hl=>by
  classical
  rw [loop_eq]
  have e0:((n+1:Nat):Int) - 1=(n:Int):=by omega
  have e1:decide (0≤(n:Int))=true:=wL (by omega)
  rw [e0]
  simp only [F_1i,e1,vE,open_eq hn h (show n<a.Events.length by omega),xV,refL]
  by_cases c:openP p t a.Events n
  ·simp only [c,decide_true,vE,xV,Fl_ex,if_true]
   exact ⟨_,rfl,rfl⟩
  ·have i1:in64 ((n:Int) - 1)=true:=in64_sm (by omega) (by omega)
   simp only [c,decide_false,vC,chk_true i1,xV,Fl_nx,if_false]
   exact rLinkedL hn h (by omega)
theorem rLinkedN {a:GEstate} {p t:Int} (hn:a.Events.length≤120) (h:F_1 a p=some false):∀{n:Nat},n≤a.Events.length→loop (F_1i a p t) ((n:Int) - 1)=some (.inl ())
 | 0,hl=>by
  rw [loop_eq]
  rfl
 | n+1,hl=>by
  rw [loop_eq]
  have e0:((n+1:Nat):Int) - 1=(n:Int):=by omega
  have e1:decide (0≤(n:Int))=true:=wL (by omega)
  have i1:in64 ((n:Int) - 1)=true:=in64_sm (by omega) (by omega)
  rw [e0]
  simp only [F_1i,e1,vE,F_1h,rplace_eq,h,xV,wN,vC,chk_true i1,Fl_nx]
  exact rLinkedN hn h (by omega)
theorem rLinked_eq (a:GEstate) (p t:Int) (hn:a.Events.length≤120):F_1j a p t=F_4 a p t:=by
 have i1:in64 ((a.Events.length:Int) - 1)=true:=in64_sm (by omega) (by omega)
 simp only [F_1j,chk_true i1]
 rcases known_cases a p with ⟨h,_⟩|h
 ·rw [linked_eq t h,←refL_lkf]
  obtain ⟨r,h1,h2⟩:=rLinkedL (t:=t) hn h (w9 _)
  rw [h1]
  exact h2
 ·rw [linked_no t h,rLinkedN hn h (w9 _)]
  rfl
end Go.Ab
namespace Go.Ab
open Go.Proofs
theorem rexists_eq {d:GDirectory} (hk:d.Kinds.length≤24) (p:Int):F_7 d p=some (decide (0≤p∧p<d.Kinds.length)):=by
 unfold F_7
 rw [chk_true (in64_smD (by omega) (by omega))]
 simp only [F_f,grp,xV]
 congr 1
 by_cases q:0≤p∧p<(d.Kinds.length:Int)
 ·rw [wL q,wL q.1,wL (show p≤(d.Kinds.length:Int) - 1 by omega)];rfl
 ·rw [x8 q]
  by_cases q1:0≤p
  ·rw [wL q1,x8 (show ¬p≤(d.Kinds.length:Int) - 1 by omega)];rfl
  ·rw [x8 q1];rfl
theorem dvalid_of {d:GDirectory} (g:GoodD d):F_w d=some true:=by
 have hk:=g.kl
 have he:=g.el
 have hin:∀x a b:Int,F_f x a b=some (decide (a≤x∧x≤b)):=fun x a b=>by simp [F_f,grp]
 refine Ok.eq ?_
 unfold F_w
 refine Ok.grp (Ok.ite (fun q=>?_) fun _=>Ok.bind (P:=fun o=>o=.nx ()) (Ok.for (fun _=>True) _ 0 () trivial (fun k x s hx _=>?_) fun s _=>rfl) fun o ho=>?_)
 ·simp only [wJ,xK] at q;omega
 ·unfold F_4i
  rw [hin,wL (g.kd x hx)]
  exact Ok.ret trivial
 subst ho
 rw [Fl_nx]
 refine Ok.bind (P:=fun o=>o=.nx ()) (Ok.forI (all:=d.Events) (fun _ _=>True) _ [] 0 () rfl rfl trivial (fun pre x r s hw _=>?_) fun s _=>rfl) fun o ho=>by subst ho;exact Ok.ret rfl
 have hx:x∈d.Events:=by rw [hw];simp
 obtain ⟨m1,m2,m3,m4,m5,m6⟩:=g.ev x hx
 have hgr:F_1g d x.Group=some true:=by
  unfold F_1g
  rw [rexists_eq hk,wL (show 0≤x.Group∧x.Group<(d.Kinds.length:Int) from ⟨m5.1,m5.2.1⟩)]
  simp only [xV,vE,jn,chk_true (inb_iff.2 ⟨m5.1,m5.2.1⟩),wL m5.2.2]
 have hp:pre.length<d.Events.length:=by rw [hw];simp
 have rest:Ok ((F_7 d x.Principal).bind fun y251=>bif (!y251) then some (.ex false) else (F_1g d x.Group).bind fun y252=>bif (!y252) then some (.ex false) else bif decide (x.Principal=x.Group) then some (.ex false) else some (.nx ())) (Fl.elim (fun _:Unit=>True) fun r:Bool=>(Fl.ex r:Fl Unit Bool)=.nx ()):=by
  rw [rexists_eq hk,wL m4,hgr]
  simp only [xV,wR,vC,x8 m6]
  exact Ok.ret trivial
 unfold F_4j
 rw [hin,hin,wL (show 1≤x.Kind∧x.Kind≤2 by omega),wL (show 0≤x.Time∧x.Time≤1099511627776 from ⟨m2,m3⟩)]
 simp only [xV,wR,vC]
 refine Ok.ite (fun q=>?_) fun _=>rest
 have q:0<(pre.length:Int):=by simpa using q
 have h1:(pre.length:Int) - 1<d.Events.length:=by omega
 refine Ok.chk (in64_smD (by omega) (by omega)) (Ok.chk (inb_iff.2 ⟨by omega,h1⟩) (Ok.ite (fun w=>?_) fun _=>rest))
 exfalso
 have w:=of_decide_eq_true w
 have hlt:pre.length - 1<d.Events.length:=by omega
 have e:d.Events.getD ((pre.length:Int) - 1).toNat default=d.Events[pre.length - 1]:=by
  rw [show ((pre.length:Int) - 1).toNat=pre.length - 1 by omega,zE,zJ hlt];rfl
 have e2:d.Events[pre.length]=x:=by simp [hw]
 have:=(List.pairwise_iff_getElem.1 g.srt) (pre.length - 1) pre.length hlt hp (by omega)
 rw [e2] at this
 rw [e] at w
 omega
theorem rupward_eq {d:GDirectory} (g:GoodD d) {p:Int} (t:Int) (h0:0≤p) (h1:p<d.Kinds.length):F_29 d p t=some (upl d p t):=by
 have hk:=g.kl
 simp only [F_29,dvalid_of g,rexists_eq hk,wL (show 0≤p∧p<(d.Kinds.length:Int) from ⟨h0,h1⟩),xV,wR,vC]
 have hu:upF d.Kinds.length (d.Events.map fun e=>(e.Time,e.Kind,e.Principal,e.Group)) p t=some ((List.range d.Kinds.length).map (oul (dlk d t) d.Kinds.length (fun i=>decide (i=p.toNat)) d.Kinds.length)):=by
  unfold upF
  rw [chk_true,chk_true]
  ·simp [dlk]
  ·simp only [x4,w4]
   rintro _ ⟨e,he,rfl⟩
   obtain ⟨_,_,_,h4,h5,_⟩:=g.ev e he
   have e1:inb e.Principal 24=true:=inb_iff.2 ⟨h4.1,by omega⟩
   have e2:inb e.Group 24=true:=inb_iff.2 ⟨h5.1,by omega⟩
   simp [e1,e2]
  ·rw [inb_iff.2 ⟨h0,h1⟩,wL hk];rfl
 rw [hu]
 generalize hy:(List.range d.Kinds.length).map (oul (dlk d t) d.Kinds.length (fun i=>decide (i=p.toNat)) d.Kinds.length)=y
 have hyl:y.length=d.Kinds.length:=by rw [←hy];simp
 have hyi:∀i,i<d.Kinds.length→gt y i=oul (dlk d t) d.Kinds.length (fun i=>decide (i=p.toNat)) d.Kinds.length i:=fun i hi=>by
  rw [←hy];simp [gt,zE,hi]
 have hpn:p.toNat<d.Kinds.length:=by omega
 have hRT:∀i,i<d.Kinds.length→(gt y i=true↔RT (dlk d t) d.Kinds.length p.toNat i):=fun i hi=>by
  rw [hyi i hi]
  constructor
  ·exact oul_sound (P:=fun i=>RT (dlk d t) d.Kinds.length p.toNat i) (fun a b ha hb h hl=>.step h ha hb hl) (fun i h=>by
    have:=of_decide_eq_true h
    subst this;exact .refl) _ i
  ·intro h
   induction h with
   | refl=>exact oul_mono (by simp) _
   | step h ha hb hl ih=>exact oul_closed hpn _ _ ha hb (ih ha) hl
 have ht:=those_eq y (by omega)
 have hup:F_2y=F_3m:=rfl
 simp only [F_17] at ht
 simp only [xV,hup]
 rw [ht]
 simp only [upl,hyl]
 congr 2
 refine List.filter_congr fun i hi=>?_
 have:=hRT i (List.mem_range.1 hi)
 cases e:gt y i with
 | true=>simp [this.1 e]
 | false =>
  have h:¬RT (dlk d t) d.Kinds.length p.toNat i:=fun h=>by rw [this.2 h] at e;cases e
  simp [h]
theorem rhas_eq (l:List Int) (x:Int):F_30 l x=some (decide (x∈l)):=by
 simp only [F_30]
 rw [forL_find (fun y=>if y=x then some true else none) l 0 (fun k y _=>by by_cases e:y=x<;>simp [F_4m,e,flO])]
 simp only [xV,elim_flO]
 have:findL (fun y=>if y=x then some true else none) l=if x∈l then some true else none:=by
  induction l with
  | nil=>rfl
  | cons y r ih =>
   by_cases e:y=x
   ·simp [findL,e]
   ·have e':¬x=y:=fun h=>e h.symm
    simp [findL,e,e',ih]
 rw [this]
 by_cases e:x∈l<;>simp [e]
open Classical in
theorem rgranted_ex {d:GDirectory} {a:GEstate} {p pl t:Int} {U G:List Int} (h1:F_29 d p t=some U) (h2:F_2a a pl t=some G):F_31 d a p pl t=some (decide (∃x∈G,x∈U)):=by
 simp only [F_31,h1,h2,xV]
 rw [forL_find (fun y=>if y∈U then some true else none) G 0 (fun k y _=>by by_cases e:y∈U<;>simp [F_4n,rhas_eq,e,flO])]
 simp only [xV,elim_flO]
 have:findL (fun y=>if y∈U then some true else none) G=if ∃x∈G,x∈U then some true else none:=by
  clear h1 h2
  induction G with
  | nil=>simp [findL]
  | cons y r ih =>
   by_cases e:y∈U
   ·simp [findL,e]
   ·simp only [findL,if_neg e]
    rw [ih]
    simp [e]
 rw [this]
 by_cases e:∃x∈G,x∈U<;>simp [e]
open Classical in
theorem rmay_eq {d:GDirectory} {a:GEstate} (g:GoodD d) (h:Good a) (p pl t:Int):F_2b d a p pl t=some (decide (mayP d a p pl t)):=by
 simp only [F_2b,dvalid_of g,rplace_eq,rreader_eq g,rLinked_eq a pl t h.len,rGranted_eq,xV,wR,vC]
 by_cases c1:0≤pl∧pl≤a.Places - 1
 ·have hk:=known_of h c1.1 c1.2
  simp only [hk,xV,wR,vC]
  by_cases c:rdr d p
  ·simp only [wL c,wR,vC,linked_eq t hk,xV]
   cases e:(lkf pl t a.Events 0 (0,false)).2 with
   | true =>
    simp only [vE,jn,xV]
    rw [wL (show mayP d a p pl t from ⟨⟨c,c1⟩,.inl e⟩)]
   | false =>
    rw [rgranted_ex (rupward_eq g t c.1 c.2.1) (by rw [rGranted_eq];exact granted_eq t h.len hk)]
    simp only [vC,jn,xV,srtI_mem]
    congr 1
    refine decide_eq_decide.2 ⟨fun q=>⟨⟨c,c1⟩,.inr q⟩,fun q=>?_⟩
    rcases q.2 with q|q
    ·rw [e] at q;cases q
    ·exact q
  ·simp only [x8 c,wN,vE]
   rw [x8 (fun q:mayP d a p pl t=>c q.1.1)]
 ·have hk:F_1 a pl=some false:=by
   rw [known_eq,x8 (fun q:Good a∧0≤pl∧pl≤a.Places - 1=>c1 q.2)]
  simp only [hk,xV,wN,vE]
  rw [x8 (fun q:mayP d a p pl t=>c1 q.1.2)]
end Go.Ab
namespace Go.Ab
open Go.Proofs
theorem happened_ok {a:GEstate} (g:Good a) (t:Int):Ok (F_37 a t) fun n=>∃k:Nat,n=(k:Int)∧k≤a.Events.length∧(∀x∈a.Events.take k,x.Time≤t)∧∀x∈a.Events.drop k,t<x.Time:=by
 have hl:=g.len
 unfold F_37
 refine Ok.bind (Ok.loop (fun s:Int=>∃k:Nat,s=(k:Int)∧k≤a.Events.length∧∀x∈a.Events.take k,x.Time≤t) (fun s=>((a.Events.length:Int) - s).toNat) (fun s hs=>?_) _ ⟨0,rfl,by omega,by simp⟩) fun r hr=>Ok.ret hr
 obtain ⟨k,rfl,h1,h2⟩:=hs
 unfold F_4p
 refine Ok.ite (fun q=>?_) fun q=>Ok.ret ⟨k,rfl,h1,h2,fun x hx=>?_⟩
 ·have q:(k:Int)<a.Events.length:=by simpa using q
  have hk:k<a.Events.length:=by omega
  have e:a.Events.getD (k:Int).toNat default=a.Events[k]:=by
   rw [xR,zE,zJ hk];rfl
  refine Ok.chk (inb_iff.2 ⟨by omega,q⟩) ?_
  rw [e]
  refine Ok.ite (fun w=>Ok.chk (in64_smD (by omega) (by omega)) (Ok.ret ⟨⟨k+1,by simp,by omega,fun x hx=>?_⟩,by show ((a.Events.length:Int) - ((k:Int)+1)).toNat<((a.Events.length:Int) - (k:Int)).toNat;omega⟩)) fun w=>Ok.ret ⟨k,rfl,h1,h2,fun x hx=>?_⟩
  ·rw [List.take_succ,zJ hk] at hx
   simp only [Option.toList_some,wD,xE] at hx
   rcases hx with hx|rfl
   ·exact h2 x hx
   ·exact of_decide_eq_true w
  ·have w:¬a.Events[k].Time≤t:=of_decide_eq_false w
   rw [List.drop_eq_getElem_cons hk] at hx
   have hs:(a.Events.drop k).Pairwise fun x y=>x.Time≤y.Time:=g.srt.sublist (List.drop_sublist _ _)
   rw [List.drop_eq_getElem_cons hk,List.pairwise_cons] at hs
   rcases wP.1 hx with rfl|hx
   ·omega
   ·have:=hs.1 x hx;omega
 ·have q:¬(k:Int)<a.Events.length:=by simpa using q
  rw [List.drop_eq_nil_of_le (by omega)] at hx
  cases hx
theorem cfo_all {c t:Int}:∀{E:List GAccess} {s:Int→Bool},(∀x∈E,x.Time≤t)→cfo c t E s=E.foldl (fun s x=>cst c x s) s
 | [],s,_=>rfl
 | x::r,s,h=>by
  simp only [cfo,wG,if_pos (h x (by simp))]
  exact cfo_all (E:=r) fun y hy=>h y (by simp [hy])
theorem cfo_no {c t:Int}:∀{E:List GAccess} {s:Int→Bool},(∀x∈E,t<x.Time)→cfo c t E s=s
 | [],s,_=>rfl
 | x::r,s,h=>by
  have:=h x (by simp)
  simp only [cfo,wG,if_neg (show ¬x.Time≤t by omega)]
  exact cfo_no (E:=r) fun y hy=>h y (by simp [hy])
theorem hld_take {a:GEstate} {c t:Int} {k:Nat} (h1:∀x∈a.Events.take k,x.Time≤t) (h2:∀x∈a.Events.drop k,t<x.Time):hld a c t=(a.Events.take k).foldl (fun s x=>cst c x s) fun _=>false:=by
 have:hld a c t=cfo c t (a.Events.drop k) (cfo c t (a.Events.take k) fun _=>false):=by
  simp only [hld,cfo]
  rw [←List.foldl_append,List.take_append_drop]
 rw [this,cfo_no h2,cfo_all h1]
def bof (l:List Bool) (s:Int→Bool):Prop:=∀i:Int,0≤i→i<l.length→l.getD i.toNat default=s i
theorem bof_set {l:List Bool} {s:Int→Bool} (h:bof l s) {p:Int} {b:Bool} (hp:0≤p) (hl:p<l.length):bof (l.set p.toNat b) (upd s p b):=by
 intro i h0 h1
 rw [List.length_set] at h1
 simp only [upd,zE,xN]
 by_cases e:i=p
 ·subst e
  simp [show i.toNat<l.length by omega]
 ·rw [if_neg (by omega),if_neg e]
  have:=h i h0 h1
  rwa [zE] at this
theorem now_step {P c:Int} {l:List Bool} {s:Int→Bool} {x:GAccess} (k:Int) (h:xok P x) (hl:(l.length:Int)=P) (hw:bof l s):Ok (F_3u c k x l) fun l'=>l'.length=l.length∧bof l' (cst c x s):=by
 obtain ⟨_,_,h3,h4,h5⟩:=h
 have hp:inb x.Place l.length=true:=inb_iff.2 ⟨h3,by omega⟩
 have hP:=hw x.Place h3 (by omega)
 have fin:∀b b':Bool,b=b'→Ok (chk (inb x.Place l.length) (some (l.set x.Place.toNat b))) fun l'=>l'.length=l.length∧bof l' (upd s x.Place b'):=fun b b' e=>by
  subst e
  exact Ok.chk hp (Ok.ret ⟨by simp,bof_set hw h3 (by omega)⟩)
 unfold F_3u
 refine Ok.ite (fun q=>?_) fun q=>Ok.ite (fun q2=>?_) fun q2=>Ok.ite (fun q3=>?_) fun q3=>?_
 ·have q:x.Kind=5:=by simpa using q
  simp only [cst,if_pos q]
  refine Ok.chk hp (Ok.ite (fun w=>fin _ _ ?_) fun w=>fin _ _ ?_)
  ·rw [hP] at w;rw [w];rfl
  ·rw [hP] at w;rw [w];rfl
 ·have q:¬x.Kind=5:=by simpa using q
  have q2:x.Kind=6:=by simpa using q2
  simp only [cst,if_neg q,if_pos q2]
  refine Ok.chk hp (Ok.ite (fun w=>fin _ _ ?_) fun w=>fin _ _ ?_)
  ·rw [hP] at w;rw [w];rfl
  ·rw [hP] at w;rw [w];rfl
 ·have q:¬x.Kind=5:=by simpa using q
  have q2:¬x.Kind=6:=by simpa using q2
  have q3:x.Kind=7:=by simpa using q3
  simp only [cst,if_neg q,if_neg q2,if_pos q3]
  refine Ok.chk hp (Ok.ite (fun w=>fin _ _ ?_) fun w=>Ok.chk (inb_iff.2 ⟨by omega,by omega⟩) (fin _ _ ?_))
  ·rw [hP] at w;rw [w];rfl
  ·rw [hP] at w;rw [w,hw x.From (by omega) (by omega)];rfl
 ·have q:¬x.Kind=5:=by simpa using q
  have q2:¬x.Kind=6:=by simpa using q2
  have q3:¬x.Kind=7:=by simpa using q3
  simp only [cst,if_neg q,if_neg q2,if_neg q3]
  exact Ok.ret ⟨rfl,hw⟩
theorem now_ok {a:GEstate} (g:Good a) (c:Int) {k:Nat} (hk:k≤a.Events.length):Ok (F_38 a c (k:Int)) fun l=>(l.length:Int)=a.Places∧bof l ((a.Events.take k).foldl (fun s x=>cst c x s) fun _=>false):=by
 have h2:=g.lo
 have h3:=g.hi
 unfold F_38
 refine Ok.chk (roomI_iff.2 ⟨by omega,by omega,by omega⟩) (Ok.chk (inc_iff.2 ⟨by omega,by omega,by omega⟩) ?_)
 rw [xR]
 refine Ok.bind (Ok.foldI (all:=a.Events.take k) (fun pre l=>(l.length:Int)=a.Places∧bof l (pre.foldl (fun s x=>cst c x s) fun _=>false)) (a.Events.take k) [] 0 _ rfl rfl ⟨by simp;omega,fun i hi hl=>?_⟩ (fun pre x r s hw hs=>?_) fun s hs=>hs) fun s hs=>Ok.ret hs
 ·simp only [List.foldl_nil,List.length_replicate] at hl ⊢
  rw [zE,List.getElem?_replicate,if_pos (by omega)]
  rfl
 ·have hx:=g.ev x (List.mem_of_mem_take (i:=k) (by rw [hw];simp))
  refine Ok.mono (now_step _ hx hs.1 hs.2) fun l' hl'=>⟨by rw [hl'.1];exact hs.1,?_⟩
  simp only [List.foldl_append,wG,List.foldl_nil]
  exact hl'.2
end Go.Ab
namespace Go.Ab
open Go.Proofs Classical
theorem push_idx:∀(xs:List Bool) (k:Nat) (s:List Int),s.length+xs.length≤1000→foldL F_3v xs (k:Int) s=some (s++((List.range xs.length).filter fun i=>xs.getD i false).map fun i:Nat=>((k+i:Nat):Int))
 | [],k,s,_=>by simp [foldL]
 | x::r,k,s,h=>by
  simp only [xY] at h
  have e1:((List.range (r.length+1)).filter fun i=>(x::r).getD i false)=(if x then [0] else [])++((List.range r.length).filter fun i=>r.getD i false).map fun i=>i+1:=by
   rw [List.range_succ_eq_map,List.filter_cons,List.filter_map]
   cases x<;>simp [Function.comp_def]
  have e2:((k:Int)+1)=((k+1:Nat):Int):=by omega
  have hm:(((List.range r.length).filter fun i=>r.getD i false).map fun i=>i+1).map (fun i:Nat=>((k+i:Nat):Int))=((List.range r.length).filter fun i=>r.getD i false).map fun i:Nat=>((k+1+i:Nat):Int):=by
   rw [List.map_map]
   refine List.map_congr_left fun i _=>?_
   simp only [Function.comp];omega
  rw [xY,e1,List.map_append,hm]
  simp only [foldL,F_3v]
  cases x with
  | false =>
   simp only [vC,xV]
   rw [e2,push_idx r (k+1) s (by omega)]
   simp
  | true =>
   have hr:room (s.length+[(k:Int)].length) 8=true:=room_smD (by simp;omega)
   simp only [vE,chk_true hr,xV]
   rw [e2,push_idx r (k+1) _ (by simp;omega)]
   simp
theorem rWhere_eq {a:GEstate} (g:Good a) {c:Int} (h0:0≤c) (h1:c≤63) (t:Int):F_39 a c t=some (whr a c t):=by
 have hlo:=g.lo
 have hhi:=g.hi
 have hr:F_36 a c=some true:=by
  simp only [F_36,valid_eq,wL g,xV,wL h0,wL h1,jn,grp,vE,wT]
 refine Ok.eq ?_
 simp only [F_39,hr,xV,wR,vC]
 refine Ok.bind (happened_ok g t) fun n hn=>?_
 obtain ⟨k,rfl,k1,k2,k3⟩:=hn
 refine Ok.bind (now_ok g c k1) fun l hl=>?_
 obtain ⟨l1,l2⟩:=hl
 have:=push_idx l 0 [] (by simp;omega)
 rw [show ((0:Nat):Int)=0 from rfl] at this
 rw [this]
 refine Ok.ret ?_
 have e2:=hld_take (c:=c) k2 k3
 rw [←e2] at l2
 rw [whr_eq g h0 h1]
 have e:l.length=a.Places.toNat:=by omega
 simp only [wB,wW,e]
 congr 1
 refine List.filter_congr fun i hi=>?_
 have hi:=List.mem_range.1 hi
 have:=l2 (i:Int) (by omega) (by omega)
 rw [xR] at this
 exact this
end Go.Ab
namespace Go.Ab
open Go.Proofs
open Classical in
noncomputable def mays (d:GDirectory) (a:GEstate) (pl t:Int):List Int:=((List.range d.Kinds.length).filter fun i:Nat=>decide (mayP d a i pl t)).map fun i:Nat=>(i:Int)
theorem mem_mays {d:GDirectory} {a:GEstate} {pl t x:Int}:x∈mays d a pl t↔mayP d a x pl t:=by
 simp only [mays,w4,wC,List.mem_range,xK]
 constructor
 ·rintro ⟨i,⟨_,h⟩,rfl⟩;exact h
 ·intro h
  obtain ⟨h0,h1,_⟩:=h.1.1
  exact ⟨x.toNat,⟨by omega,by rw [Int.toNat_of_nonneg h0];exact h⟩,Int.toNat_of_nonneg h0⟩
theorem who_eq {d:GDirectory} {a:GEstate} (g:GoodD d) (h:Good a) {pl:Int} (t:Int) (h0:0≤pl) (h1:pl≤a.Places - 1):F_19 d a pl t=some (⟨(lkf pl t a.Events 0 (0,false)).2,mays d a pl t⟩,0):=by
 have hk:=g.kl
 classical
 have e:foldL (F_22 d a pl t) d.Kinds 0 ((lkf pl t a.Events 0 (0,false)).2,[])=some ((lkf pl t a.Events 0 (0,false)).2,mays d a pl t):=by
  refine Ok.eq (Ok.foldI (all:=d.Kinds) (fun pre s=>s=((lkf pl t a.Events 0 (0,false)).2,((List.range pre.length).filter fun i:Nat=>decide (mayP d a i pl t)).map fun i:Nat=>(i:Int))) d.Kinds [] 0 _ rfl rfl rfl (fun pre x r s hw hs=>?_) fun s hs=>hs)
  subst hs
  have hp:pre.length<d.Kinds.length:=by rw [hw];simp
  have hlen:(((List.range pre.length).filter fun i:Nat=>decide (mayP d a i pl t)).map fun i:Nat=>(i:Int)).length≤pre.length:=by
   rw [wF];exact wX (List.length_filter_le _ _) (by simp)
  unfold F_22
  rw [may_eq g h]
  simp only [xV,xG,zU,List.range_succ,List.filter_append,List.map_append]
  by_cases c:mayP d a (pre.length:Int) pl t
  ·rw [wL c,vE]
   refine Ok.chk (room_smD (by omega)) (Ok.ret ?_)
   simp [c]
  ·rw [x8 c,vC]
   refine Ok.ret ?_
   simp [c]
 simp only [F_19,F_i,dcheck_eq,check_eqA,if_pos g,if_pos h,xV,decide_true,wR,vC,place_eqA a pl h.lo h.hi,wL (show 0≤pl∧pl≤a.Places - 1 from ⟨h0,h1⟩),linked_eq t (known_of h h0 h1),e]
def grpP (d:GDirectory) (q:Int):Prop:=0≤q∧q<d.Kinds.length∧d.Kinds.getD q.toNat default=2
instance (d:GDirectory) (q:Int):Decidable (grpP d q):=inferInstanceAs (Decidable (_∧_∧_))
def d1:GDirectory:=⟨[1,2],[⟨0,1,0,1⟩]⟩
def a1:GEstate:=⟨1,[⟨0,1,0,1,0,0,0⟩]⟩
end Go.Ab
namespace Go.Ab
open Go.Proofs Classical
theorem rwho_eq {d:GDirectory} {a:GEstate} (g:GoodD d) (h:Good a) {pl:Int} (t:Int) (h0:0≤pl) (h1:pl≤a.Places - 1):F_32 d a pl t=some (⟨(lkf pl t a.Events 0 (0,false)).2,mays d a pl t⟩,0):=by
 have hk:=g.kl
 have e:foldL (F_3s d a pl t) d.Kinds 0 ((lkf pl t a.Events 0 (0,false)).2,[])=some ((lkf pl t a.Events 0 (0,false)).2,mays d a pl t):=by
  refine Ok.eq (Ok.foldI (all:=d.Kinds) (fun pre s=>s=((lkf pl t a.Events 0 (0,false)).2,((List.range pre.length).filter fun i:Nat=>decide (mayP d a i pl t)).map fun i:Nat=>(i:Int))) d.Kinds [] 0 _ rfl rfl rfl (fun pre x r s hw hs=>?_) fun s hs=>hs)
  subst hs
  have hp:pre.length<d.Kinds.length:=by rw [hw];simp
  have hlen:(((List.range pre.length).filter fun i:Nat=>decide (mayP d a i pl t)).map fun i:Nat=>(i:Int)).length≤pre.length:=by
   rw [wF];exact wX (List.length_filter_le _ _) (by simp)
  unfold F_3s
  rw [rmay_eq g h]
  simp only [xV,xG,zU,List.range_succ,List.filter_append,List.map_append]
  by_cases c:mayP d a (pre.length:Int) pl t
  ·rw [wL c,vE]
   refine Ok.chk (room_smD (by omega)) (Ok.ret ?_)
   simp [c]
  ·rw [x8 c,vC]
   refine Ok.ret ?_
   simp [c]
 have hkn:=known_of h h0 h1
 simp only [F_32,dvalid_of g,valid_eq,wL h,rplace_eq,hkn,rLinked_eq a pl t h.len,xV,wR,vC,linked_eq t hkn,e]
end Go.Ab
