/- Chapter 27: what the functions of access answer, in plain words. -/
import Derived.Test.YtbmjlaknnpmgpaaGreatDoorLG
import Derived.Test.YtbmjlaknnpmgpaaGreatDoorAbRun
set_option linter.all false
set_option linter.all false
namespace Go.Ab
open Go.Proofs
def xok (P:Int) (x:GAccess):Prop :=
 0≤x.Time∧x.Time≤1099511627776∧0≤x.Place∧x.Place≤P - 1 ∧
 ((x.Kind=1∨x.Kind=2)∧0≤x.Principal∧x.Principal≤23∧x.Until=0∧x.Content=0∧x.From=0 ∨
  x.Kind=3∧x.Time<x.Until∧x.Until≤1099511627776∧x.Principal=0∧x.Content=0∧x.From=0 ∨
  x.Kind=4∧x.Principal=0∧x.Until=0∧x.Content=0∧x.From=0 ∨
  (x.Kind=5∨x.Kind=6)∧0≤x.Content∧x.Content≤63∧x.Principal=0∧x.Until=0∧x.From=0 ∨
  x.Kind=7∧0≤x.From∧x.From≤P - 1∧x.From≠x.Place∧x.Principal=0∧x.Until=0∧x.Content=0)
structure Good (a:GEstate):Prop where
 lo:1≤a.Places
 hi:a.Places≤16
 len:a.Events.length≤120
 ev:∀x∈a.Events,xok a.Places x
 srt:a.Events.Pairwise fun x y=>x.Time≤y.Time
theorem among_eq (n lo hi:Int):F_f n lo hi=some (decide (lo≤n∧n≤hi)):=by
 simp [F_f,grp]
theorem in64_sm {n:Int} (h1:-1000000000000000≤n) (h2:n≤1000000000000000):in64 n=true:=in64_iff.2 ⟨by omega,by omega⟩
theorem place_eq (a:GEstate) (p:Int) (h1:1≤a.Places) (h2:a.Places≤16):F_g a p=some (decide (0≤p∧p≤a.Places - 1)):=by
 simp [F_g,among_eq,chk_true (in64_sm (n:=a.Places - 1) (by omega) (by omega))]
theorem right_eq (a:GEstate) (x:GAccess) (h1:1≤a.Places) (h2:a.Places≤16) (h0:0≤x.Time) (hm:x.Time≤1099511627776):∃b,F_2u a x=some b∧(b=true↔xok a.Places x):=by
 obtain ⟨T,K,P,pr,U,C,F⟩:=x
 simp only at h0 hm
 simp only [F_2u,among_eq,place_eq a _ h1 h2,F_8,jn,grp,xX,Option.bind_eq_bind]
 by_cases k1:K=1
 ·subst k1
  by_cases c1:0≤pr<;>by_cases c2:pr≤23<;>simp [xok,c1,c2]<;>omega
 by_cases k2:K=2
 ·subst k2
  by_cases c1:0≤pr<;>by_cases c2:pr≤23<;>simp [xok,c1,c2]<;>omega
 by_cases k3:K=3
 ·subst k3
  by_cases c:T<U<;>by_cases c2:U≤1099511627776<;>simp [xok,c,c2]<;>omega
 by_cases k4:K=4
 ·subst k4
  simp [xok]
  omega
 by_cases k5:K=5
 ·subst k5
  by_cases c1:0≤C<;>by_cases c2:C≤63<;>simp [xok,c1,c2]<;>omega
 by_cases k6:K=6
 ·subst k6
  by_cases c1:0≤C<;>by_cases c2:C≤63<;>simp [xok,c1,c2]<;>omega
 by_cases k7:K=7
 ·subst k7
  by_cases c1:0≤F<;>by_cases c2:F≤a.Places - 1<;>by_cases c3:F=P<;>simp [xok,c1,c2,c3]<;>omega
 ·simp [xok,k1,k2,k3,k4,k5,k6,k7]
def chain (P:Int):Int→List GAccess→Prop
 | _,[]=>True
 | last,x::r=>last≤x.Time∧xok P x∧chain P x.Time r
theorem chain_iff {P:Int}:∀{l:List GAccess} {last:Int},chain P last l↔((∀x∈l,last≤x.Time∧xok P x)∧l.Pairwise fun x y=>x.Time≤y.Time)
 | [],last=>by simp [chain]
 | x::r,last=>by
  simp only [chain,chain_iff (l:=r),wW,List.pairwise_cons]
  constructor
  ·rintro ⟨h1,h2,h3,h4⟩
   refine ⟨fun y hy=>?_,fun y hy=>(h3 y hy).1,h4⟩
   rcases hy with rfl|hy
   ·exact ⟨h1,h2⟩
   ·exact ⟨Int.le_trans h1 (h3 y hy).1,(h3 y hy).2⟩
  ·rintro ⟨h1,h2,h3⟩
   exact ⟨(h1 x (.inl rfl)).1,(h1 x (.inl rfl)).2,fun y hy=>⟨h2 y hy,(h1 y (.inr hy)).2⟩,h3⟩
open Classical in
theorem chkL_eq (a:GEstate) (h1:1≤a.Places) (h2:a.Places≤16):∀(l:List GAccess) (k last:Int),0≤last→∃o,forL (F_53 a) l k last=some o∧(chain a.Places last l→∃s,o=.nx s)∧(¬chain a.Places last l→o=.ex 34)
 | [],k,last,h=>⟨.nx last,rfl,fun _=>⟨_,rfl⟩,fun hc=>absurd trivial hc⟩
 | x::r,k,last,h=>by
  simp only [forL,F_53,grp,chain]
  by_cases c:x.Time<last∨1099511627776<x.Time
  ·have c':(decide (x.Time<last)||decide (1099511627776<x.Time))=true:=by simpa using c
   simp only [c',vL,xX,Fl_ex]
   refine ⟨_,rfl,fun hc=>?_,fun _=>rfl⟩
   have:=hc.2.1.2.1
   omega
  ·have c':(decide (x.Time<last)||decide (1099511627776<x.Time))=false:=by simpa using c
   obtain ⟨b,hb,hb2⟩:=right_eq a x h1 h2 (by omega) (by omega)
   simp only [c',vJ,hb,xX]
   cases b with
   | false =>
    simp only [wU,vL,xX,Fl_ex]
    refine ⟨_,rfl,fun hc=>?_,fun _=>rfl⟩
    have:=hb2.2 hc.2.1
    cases this
   | true =>
    simp only [wY,vJ,xX,Fl_nx]
    obtain ⟨o,ho,ho1,ho2⟩:=chkL_eq a h1 h2 r (k+1) x.Time (by omega)
    refine ⟨o,ho,fun hc=>ho1 hc.2.2,fun hc=>ho2 fun h3=>hc ⟨by omega,hb2.1 rfl,h3⟩⟩
theorem good_iff (a:GEstate):Good a↔(1≤a.Places∧a.Places≤16)∧a.Events.length≤120∧chain a.Places 0 a.Events:=by
 rw [chain_iff]
 constructor
 ·rintro ⟨h1,h2,h3,h4,h5⟩
  exact ⟨⟨h1,h2⟩,h3,fun x hx=>⟨(h4 x hx).1,h4 x hx⟩,h5⟩
 ·rintro ⟨⟨h1,h2⟩,h3,h4,h5⟩
  exact ⟨h1,h2,h3,fun x hx=>(h4 x hx).2,h5⟩
open Classical in
theorem check_eq (a:GEstate):F_h a=some (if Good a then 0 else 34):=by
 simp only [F_h,among_eq,xX,grp]
 by_cases c:1≤a.Places∧a.Places≤16
 ·by_cases c2:a.Events.length≤120
  ·have c':(!decide (1≤a.Places∧a.Places≤16)||decide (120<(a.Events.length:Int)))=false:=by simp [c];omega
   obtain ⟨o,ho,ho1,ho2⟩:=chkL_eq a c.1 c.2 a.Events 0 0 (vI 0)
   simp only [c',vJ,ho,xX]
   by_cases hc:chain a.Places 0 a.Events
   ·obtain ⟨s,rfl⟩:=ho1 hc
    have:Good a:=(good_iff a).2 ⟨c,c2,hc⟩
    simp [this,Fl_nx]
   ·rw [ho2 hc]
    have:¬Good a:=fun h=>hc ((good_iff a).1 h).2.2
    simp [this,Fl_ex]
  ·have c':(!decide (1≤a.Places∧a.Places≤16)||decide (120<(a.Events.length:Int)))=true:=by simp;omega
   have:¬Good a:=fun h=>c2 h.len
   simp only [c',vL,if_neg this]
 ·have:¬Good a:=fun h=>c ⟨h.lo,h.hi⟩
  simp [c,this]
open Classical in
theorem known_eq (a:GEstate) (p:Int):F_e a p=some (decide (Good a∧0≤p∧p≤a.Places - 1)):=by
 simp only [F_e,check_eq,xX,jn]
 by_cases h:Good a
 ·simp [h,place_eq a p h.lo h.hi]
 ·simp [h]
theorem known_of {a:GEstate} {p:Int} (h:Good a) (h1:0≤p) (h2:p≤a.Places - 1):F_e a p=some true:=by
 rw [known_eq];simp [h,h1];omega
theorem Good.sub {a:GEstate} (h:Good a) {l:List GAccess} (hl:l.Sublist a.Events):Good ⟨a.Places,l⟩ :=
 ⟨h.lo,h.hi,w8 hl.length_le h.len,fun x hx=>h.ev x (hl.subset hx),h.srt.sublist hl⟩
def lst (p t:Int) (i:Int) (x:GAccess) (s:Int×Bool):Int×Bool :=
 if t<x.Time∨x.Place≠p then s else if x.Kind=4 then (0,false) else if x.Kind=3∧t<x.Until then (i,true) else s
def lkf (p t:Int):List GAccess→Int→Int×Bool→Int×Bool
 | [],_,s=>s
 | x::r,i,s=>lkf p t r (i+1) (lst p t i x s)
theorem lkf_append (p t:Int):∀(l m:List GAccess) (i:Int) (s:Int×Bool),lkf p t (l++m) i s=lkf p t m (i+l.length) (lkf p t l i s)
 | [],m,i,s=>by simp [lkf]
 | x::r,m,i,s=>by
  simp only [wB,lkf,lkf_append p t r m]
  congr 1
  simp;omega
def lfind (p t:Int) (y:Int×GAccess):Option (Int×Bool) :=
 if t<y.2.Time∨y.2.Place≠p then none else if y.2.Kind=4 then some (0,false) else if y.2.Kind=3∧t<y.2.Until then some (y.1,true) else none
theorem link_body (p t k:Int) (y:Int×GAccess):F_7a p t k y ()=some (flO (lfind p t y)):=by
 simp only [F_7a,grp,lfind]
 by_cases c:t<y.2.Time∨y.2.Place≠p
 ·have c':(decide (t<y.2.Time)||!decide (y.2.Place=p))=true:=by simpa using c
  simp [c',c,flO]
 ·have c':(decide (t<y.2.Time)||!decide (y.2.Place=p))=false:=by simpa using c
  simp only [c',vJ,if_neg c]
  by_cases c2:y.2.Kind=4
  ·simp [c2,flO]
  ·by_cases c3:y.2.Kind=3∧t<y.2.Until
   ·simp [c2,c3,flO]
   ·have c4:(decide (y.2.Kind=3)&&decide (t<y.2.Until))=false:=by simpa using c3
    rw [if_neg c2,if_neg c3]
    simp [c2,c4,flO]
theorem revp_snoc (l:List GAccess) (x:GAccess):revp (l++[x])=((l.length:Int),x)::revp l:=by
 unfold revp
 rw [xH,zV,List.range_succ_eq_map]
 simp only [wX,List.map_map]
 congr 1
 ·simp
 ·refine List.map_congr_left fun k hk=>?_
  have:=List.mem_range.1 hk
  simp only [Function.comp]
  have e:l.length+1 - 1 - (k+1)=l.length - 1 - k:=by omega
  rw [show k.succ=k+1 from rfl,e,zE,zE,zH (by omega)]
theorem revList_ind {α:Type} {m:List α→Prop} (h0:m []) (h1:∀l x,m l→m (l++[x])) (l:List α):m l:=by
 have:∀n (l:List α),l.length=n→m l:=by
  intro n
  induction n with
  | zero=>intro l hl;rw [zM.1 hl];exact h0
  | succ n ih =>
   intro l hl
   have hne:l≠[]:=by intro e;simp [e] at hl
   rw [←List.dropLast_concat_getLast hne]
   exact h1 _ _ (ih _ (by simp [hl]))
 exact this _ l rfl
theorem find_lkf (p t:Int) (l:List GAccess):(findL (lfind p t) (revp l)).getD (0,false)=lkf p t l 0 (0,false):=by
 induction l using revList_ind with
 | h0=>rfl
 | h1 l x ih =>
  rw [revp_snoc,lkf_append]
  simp only [findL,lkf,Int.zero_add]
  rw [←ih]
  unfold lfind lst
  by_cases c:t<x.Time∨x.Place≠p
  ·simp only [if_pos c]
  ·simp only [if_neg c]
   by_cases c2:x.Kind=4
   ·simp [c2]
   ·by_cases c3:x.Kind=3∧t<x.Until
    ·simp [c2,c3]
    ·simp only [if_neg c2,if_neg c3]
theorem linked_eq {a:GEstate} {p:Int} (t:Int) (h:F_e a p=some true):F_1l a p t=some (lkf p t a.Events 0 (0,false)):=by
 simp only [F_1l,h,xX,wY,vJ,backF]
 rw [forL_find (lfind p t) (revp a.Events) 0 fun k y _=>link_body p t k y,←find_lkf]
 cases findL (lfind p t) (revp a.Events)<;>rfl
end Go.Ab
namespace Go.Ab
open Go.Proofs
def foldP {α σ:Type} (f:Int→α→σ→σ):List α→Int→σ→σ
 | [],_,s=>s
 | x::r,k,s=>foldP f r (k+1) (f k x s)
theorem foldL_plain {α σ:Type} {body:Int→α→σ→Option σ} (f:Int→α→σ→σ) (h:∀k x s,body k x s=some (f k x s)):∀(xs:List α) (k:Int) (s:σ),foldL body xs k s=some (foldP f xs k s)
 | [],k,s=>rfl
 | x::r,k,s=>by simp only [foldL,h,xX,foldP,foldL_plain f h r]
theorem foldL_push {α β:Type} {body:Int→α→List β→Option (List β)} (g:α→β) (b:Nat) (n:Nat) (hn:n*b≤140737488355328) (h:∀k x s,body k x s=chk (room (s.length+[g x].length) b) (some (s++[g x]))) :
  ∀(xs:List α) (k:Int) (s:List β),s.length+xs.length≤n→foldL body xs k s=some (s++xs.map g)
 | [],k,s,hl=>by simp [foldL]
 | x::r,k,s,hl=>by
  have:room (s.length+[g x].length) b=true:=room_iff.2 (by
   simp at hl ⊢
   exact w8 (zZ b (by omega)) hn)
  simp only [foldL,h,chk_true this,xX]
  rw [foldL_push g b n hn h r (k+1) _ (by simp at hl ⊢;omega)]
  simp
def gst (p t:Int) (i:Int) (x:GAccess) (m:List (Int×Int)):List (Int×Int) :=
 if t<x.Time∨x.Place≠p then m else if x.Kind=1 then aput x.Principal i m else if x.Kind=2 then adel x.Principal m else m
def grf (p t:Int) (l:List GAccess):List (Int×Int):=foldP (gst p t) l 0 []
theorem gst_body (p t k:Int) (x:GAccess) (m:List (Int×Int)):F_56 p t k x m=some (gst p t k x m):=by
 simp only [F_56,grp,gst]
 by_cases c:t<x.Time∨x.Place≠p
 ·have c':(decide (t<x.Time)||!decide (x.Place=p))=true:=by simpa using c
  simp [c',c]
 ·have c':(decide (t<x.Time)||!decide (x.Place=p))=false:=by simpa using c
  simp only [c',vJ,if_neg c]
  by_cases c2:x.Kind=1
  ·simp [c2]
  ·by_cases c3:x.Kind=2<;>simp [c2,c3]
theorem grants_eq (a:GEstate) (p t:Int):F_32 a p t=some (grf p t a.Events):=by
 simp only [F_32,foldL_plain (gst p t) (gst_body p t),xX,grf]
theorem keys_aput (k v:Int):∀m:List (Int×Int),(aput k v m).map Prod.fst=if k∈m.map Prod.fst then m.map Prod.fst else m.map Prod.fst++[k]
 | []=>by simp [aput]
 | (a,b)::r=>by
  by_cases e:k=a
  ·simp [aput,e]
  ·have ih:=keys_aput k v r
   simp only [aput,if_neg e,wX,ih,wW]
   by_cases c:k∈List.map Prod.fst r<;>simp only [e,c,false_or,if_true,if_false,wB]
theorem keys_adel (k:Int):∀m:List (Int×Int),(adel k m).map Prod.fst=(m.map Prod.fst).erase k
 | []=>by simp [adel]
 | (a,b)::r=>by
  by_cases e:k=a
  ·simp [adel,e]
  ·have e':¬a=k:=fun h=>e h.symm
   simp [adel,e,e',List.erase_cons,keys_adel k r]
def kst (p t:Int) (x:GAccess) (ks:List Int):List Int :=
 if t<x.Time∨x.Place≠p then ks else if x.Kind=1 then (if x.Principal∈ks then ks else ks++[x.Principal]) else if x.Kind=2 then ks.erase x.Principal else ks
def keysf (p t:Int) (l:List GAccess):List Int:=l.foldl (fun ks x=>kst p t x ks) []
theorem gst_keys (p t i:Int) (x:GAccess) (m:List (Int×Int)):(gst p t i x m).map Prod.fst=kst p t x (m.map Prod.fst):=by
 unfold gst kst
 split
 ·rfl
 ·split
  ·exact keys_aput _ _ _
  ·split
   ·exact keys_adel _ _
   ·rfl
theorem foldP_keys (p t:Int):∀(l:List GAccess) (i:Int) (m:List (Int×Int)),(foldP (gst p t) l i m).map Prod.fst=l.foldl (fun ks x=>kst p t x ks) (m.map Prod.fst)
 | [],i,m=>rfl
 | x::r,i,m=>by
  simp only [foldP,wN,foldP_keys p t r]
  rw [gst_keys]
theorem grf_keys (p t:Int) (l:List GAccess):(grf p t l).map Prod.fst=keysf p t l:=foldP_keys p t l 0 []
theorem keysf_snoc (p t:Int) (l:List GAccess) (x:GAccess):keysf p t (l++[x])=kst p t x (keysf p t l):=by simp [keysf]
theorem keysf_len (p t:Int) (l:List GAccess):(keysf p t l).length≤l.length:=by
 induction l using revList_ind with
 | h0=>simp [keysf]
 | h1 l x ih =>
  rw [keysf_snoc]
  simp only [xH,zV]
  unfold kst
  split
  ·omega
  ·split
   ·split
    ·omega
    ·simp;omega
   ·split
    ·have:=List.length_erase_le (a:=x.Principal) (l:=keysf p t l);omega
    ·omega
def srtI (l:List Int):List Int:=l.mergeSort fun x y=>decide (x≤y)
theorem srtI_perm (l:List Int):(srtI l).Perm l:=List.mergeSort_perm _ _
theorem srtI_sorted (l:List Int):(srtI l).Pairwise (fun x y=>x≤y):=by
 have:=List.pairwise_mergeSort (le:=fun x y:Int=>decide (x≤y)) (fun a b c h1 h2=>by simp at *;omega) (fun a b=>by simp;omega) l
 exact this.imp fun h=>by simpa using h
theorem sorted_unique {l m:List Int} (h:l.Perm m) (h1:l.Pairwise (fun x y=>x≤y)) (h2:m.Pairwise (fun x y=>x≤y)):l=m :=
 h.eq_of_pairwise (fun a b _ _ h1 h2=>by omega) h1 h2
theorem srtI_congr {l m:List Int} (h:l.Perm m):srtI l=srtI m :=
 sorted_unique ((srtI_perm l).trans (h.trans (srtI_perm m).symm)) (srtI_sorted l) (srtI_sorted m)
theorem srtI_mem {l:List Int} {x:Int}:x∈srtI l↔x∈l:=(srtI_perm l).mem_iff
theorem granted_eq {a:GEstate} {p:Int} (t:Int) (hn:a.Events.length≤120) (h:F_e a p=some true):F_1n a p t=some (srtI (keysf p t a.Events)):=by
 simp only [F_1n,h,xX,wY,vJ,grants_eq]
 refine permL_of fun l hl=>?_
 have hp:(l.map Prod.fst).Perm (keysf p t a.Events):=by rw [←grf_keys];exact hl.map _
 have hlen:l.length≤120:=by
  have h1:=hp.length_eq
  have h2:=keysf_len p t a.Events
  simp at h1;omega
 rw [foldL_push (body:=F_57) (g:=Prod.fst) (b:=8) (n:=120) (by omega) (fun k x s=>rfl) l 0 [] (by simpa using hlen)]
 simp only [xX,wI,sortI]
 have:(l.map Prod.fst).length<4611686018427387904:=by simp;omega
 rw [if_pos this]
 simp only [xX]
 exact congrArg some (srtI_congr hp)
end Go.Ab
namespace Go.Ab
open Go.Proofs
def TOK (t:GTape):Prop:=0≤t.at_∧t.L.length≤1000
theorem next_ok {t:GTape} {n:Int} (h:TOK t) (hn:0<n):Ok (F_0 t n) fun y=>0≤y.1∧y.1<n∧TOK y.2:=by
  unfold F_0
  refine Ok.ite (fun c=>Ok.ret ⟨vI 0,hn,h⟩) fun c=>?_
  have c':t.at_<t.L.length:=by simpa using c
  have h1:=h.1;have h2:=h.2
  refine Ok.chk (inb_iff.2 ⟨h.1,c'⟩) (Ok.chk (in64_sm (by omega) (by omega)) (Ok.chk (divs_iff.2 ⟨Int.emod_nonneg _ (by decide),hn⟩) (Ok.ret ⟨Int.emod_nonneg _ (by omega),Int.emod_lt_of_pos _ hn,?_,h2⟩)))
  show 0≤t.at_+1
  omega
theorem between_ok {t:GTape} {a b:Int} (h:TOK t) (h1:-1000000≤a) (h2:a≤b) (h3:b≤1000000):Ok (F_1 t a b) fun y=>a≤y.1∧y.1≤b∧TOK y.2:=by
  unfold F_1
  refine Ok.chk (in64_sm (by omega) (by omega)) (Ok.chk (in64_sm (by omega) (by omega)) (Ok.bind (next_ok h (by omega)) fun y hy=>Ok.chk (in64_sm (by omega) (by omega)) (Ok.ret ⟨?_,?_,hy.2.2⟩)))
  · show a≤a+y.1;omega
  · show a+y.1≤b;omega
theorem pick_ok {t:GTape} {l:List Int} (h:TOK t) (hl:0<l.length):Ok (F_b t l) fun y=>y.1∈l∧TOK y.2:=by
  unfold F_b
  refine Ok.bind (next_ok h (by omega)) fun y hy=>Ok.chk (inb_iff.2 ⟨hy.1,hy.2.1⟩) (Ok.ret ⟨?_,hy.2.2⟩)
  have:y.1.toNat<l.length:=by omega
  simp [this]
theorem room_sm {n b:Nat} (h:n*b≤1000000):room n b=true:=room_iff.2 (by omega)
theorem clock_ok {t:GTape} {n:Int} (h:TOK t) (h0:0≤n) (hn:n≤30):Ok (F_1a t n) fun y=>(y.1.length:Int)=n∧y.1.Pairwise (fun a b=>a≤b)∧(∀x∈y.1,0≤x∧x≤3+2*n)∧TOK y.2:=by
  unfold F_1a
  refine Ok.bind (next_ok h (by omega)) fun y hy=>?_
  refine Ok.bind (Ok.loop (Q:=fun y:List Int×GTape=>(y.1.length:Int)=n∧y.1.Pairwise (fun a b=>a≤b)∧(∀x∈y.1,0≤x∧x≤3+2*n)∧TOK y.2) (fun x=>x.2.1=x.2.2.1.length∧x.2.1≤n∧x.2.2.1.Pairwise (fun a b=>a≤b)∧(∀z∈x.2.2.1,0≤z∧z≤x.1)∧0≤x.1∧x.1≤3+2*x.2.1∧TOK x.2.2.2) (fun x=>(n - x.2.1).toNat) (fun x hx=>?_) _ ?_) fun r hr=>Ok.ret hr
  · obtain ⟨a,i,out,t⟩:=x
    obtain ⟨h1,h2,h3,h4,h5,h6,h7⟩:=hx
    simp only at h1 h2 h3 h4 h5 h6 h7
    unfold F_5i
    refine Ok.ite (fun c=>?_) fun c=>?_
    · have c:i<n:=by simpa using c
      refine Ok.bind (next_ok h7 (by omega)) fun y hy=>?_
      obtain ⟨y1,y2,y3⟩:=hy
      refine Ok.chk (in64_sm (by simp only;omega) (by simp only;omega)) (Ok.chk (room_sm (by simp;omega)) (Ok.chk (in64_sm (by simp only;omega) (by simp only;omega)) (Ok.ret ?_)))
      simp only [Fl.elim]
      refine ⟨⟨?_,?_,?_,?_,?_,?_,y3⟩,by omega⟩
      · simp;omega
      · omega
      · rw [List.pairwise_append]
        refine ⟨h3,by simp,fun z hz w hw=>?_⟩
        simp at hw
        have:=(h4 z hz).2
        omega
      · intro z hz
        simp only [wK,xF] at hz
        rcases hz with hz|hz
        · have:=h4 z hz;omega
        · omega
      · omega
      · omega
    · have c:¬i<n:=by simpa using c
      refine Ok.ret ?_
      simp only [Fl.elim]
      refine ⟨by omega,h3,fun z hz=>?_,h7⟩
      have:=h4 z hz
      omega
  · simp only [wL]
    refine ⟨rfl,h0,List.Pairwise.nil,by simp,hy.1,by omega,hy.2.2⟩
theorem estate_ok {t:GTape} {d:GDirectory} (h:TOK t) (hd:d.Kinds.length≤7):Ok (F_25 t d) fun y=>Good y.1∧y.1.Places≤4∧y.1.Events.length≤15∧(∀x∈y.1.Events,x.Time≤33)∧TOK y.2:=by
  unfold F_25
  refine Ok.bind (between_ok h (by omega) (by omega) (by omega)) fun y hy=>Ok.bind (next_ok hy.2.2 (by omega)) fun n hn=>Ok.bind (clock_ok hn.2.2 hn.1 (by omega)) fun z hz=>?_
  obtain ⟨z1,z2,z3,z4⟩:=hz
  refine Ok.bind (Ok.foldI (all:=z.1) (Q:=fun x:Int×List GAccess×GTape=>x.1=y.1∧x.2.1.length≤z.1.length∧(∀e∈x.2.1,xok y.1 e∧e.Time≤33)∧x.2.1.Pairwise (fun a b=>a.Time≤b.Time)∧TOK x.2.2)
    (fun pre x=>x.1=y.1∧x.2.1.length≤pre.length∧(∀e∈x.2.1,xok y.1 e∧e.Time∈pre)∧x.2.1.Pairwise (fun a b=>a.Time≤b.Time)∧TOK x.2.2) z.1 [] 0 _ rfl rfl ⟨rfl,by simp,by simp,List.Pairwise.nil,z4⟩ (fun pre c q s hw hs=>?_) fun s hs=>?_) fun s hs=>Ok.ret ?_
  · obtain ⟨s1,s2,s3,s4,s5⟩:=hs
    unfold F_5m
    have hc:=z3 c (by rw [hw];simp)
    have hpre:∀e∈pre,e≤c:=fun e he=>by rw [hw,List.pairwise_append] at z2;exact z2.2.2 e he c (by simp)
    have hp:pre.length≤15:=by have:=congrArg List.length hw;simp at this;omega
    obtain ⟨y1,y2,y3⟩:=hy
    have push:∀(x:GAccess) (t:GTape),xok y.1 x→x.Time=c→TOK t→Ok (chk (room (s.2.1.length+[x].length) 56) (some (s.1,s.2.1++[x],t))) fun x=>x.1=y.1∧x.2.1.length≤(pre++[c]).length∧(∀e∈x.2.1,xok y.1 e∧e.Time∈pre++[c])∧x.2.1.Pairwise (fun a b=>a.Time≤b.Time)∧TOK x.2.2:=by
      intro x t hx ht hT
      refine Ok.chk (room_sm (by simp;omega)) (Ok.ret ⟨s1,by simp;omega,fun e he=>?_,?_,hT⟩)
      · simp only [wK,xF] at he ⊢
        rcases he with he|rfl
        · exact ⟨(s3 e he).1,.inl (s3 e he).2⟩
        · exact ⟨hx,.inr ht⟩
      · rw [List.pairwise_append]
        refine ⟨s4,by simp,fun e he w hw2=>?_⟩
        simp only [xF] at hw2
        subst hw2
        rw [ht];exact hpre _ (s3 e he).2
    refine Ok.bind (pick_ok s5 (by simp)) fun k hk=>Ok.bind (next_ok hk.2 (by omega)) fun pl hpl=>?_
    obtain ⟨p1,p2,p3⟩:=hpl
    rw [s1] at p2
    have hk1:k.1=1∨k.1=2∨k.1=3∨k.1=4∨k.1=5∨k.1=6∨k.1=7:=by have:=hk.1;simp at this;omega
    refine Ok.jn (P:=fun o=>match o with|.nx j=>xok y.1 j.1∧j.1.Time=c∧TOK j.2|.ex r=>TOK r) ?_ fun o ho=>?_
    · refine Ok.jn (P := fun b => b = true ↔ (k.1 = 1 ∨ k.1 = 2)) (Ok.ite (fun c => Ok.ret (by simpa using Or.inl (by simpa using c))) fun c => Ok.ret (by have:¬k.1=1:=by simpa using c
                                                                                                                                                           simp [this])) fun b hb=>?_
      refine Ok.ite (fun c1=>?_) fun c1=>?_
      · have hk2:=hb.1 c1
        refine Ok.chk (in64_sm (by omega) (by omega)) (Ok.bind (next_ok p3 (by omega)) fun w hw2=>Ok.ret ⟨?_,rfl,hw2.2.2⟩)
        exact ⟨by show 0≤c;omega,by show c≤1099511627776;omega,p1,by show pl.1≤y.1 - 1;omega,.inl ⟨hk2,hw2.1,by show w.1≤23;omega,rfl,rfl,rfl⟩⟩
      · have hk2:¬(k.1=1∨k.1=2):=fun h=>by rw [hb.2 h] at c1;cases c1
        refine Ok.ite (fun c2=>?_) fun c2=>?_
        · have c2:k.1=3:=by simpa using c2
          refine Ok.chk (in64_sm (by omega) (by omega)) (Ok.bind (next_ok p3 (by omega)) fun w hw2=>Ok.chk (in64_sm (by omega) (by omega)) (Ok.ret ⟨?_,rfl,hw2.2.2⟩))
          exact ⟨by show 0≤c;omega,by show c≤1099511627776;omega,p1,by show pl.1≤y.1 - 1;omega,.inr (.inl ⟨c2,by show c<c+1+w.1;omega,by show c+1+w.1≤1099511627776;omega,rfl,rfl,rfl⟩)⟩
        · have c2:¬k.1=3:=by simpa using c2
          refine Ok.jn (P := fun b => b = true ↔ (k.1 = 5 ∨ k.1 = 6)) (Ok.ite (fun c => Ok.ret (by simpa using Or.inl (by simpa using c))) fun c => Ok.ret (by have:¬k.1=5:=by simpa using c
                                                                                                                                                               simp [this])) fun b hb=>?_
          refine Ok.ite (fun c3=>?_) fun c3=>?_
          · have hk3:=hb.1 c3
            refine Ok.bind (next_ok p3 (by omega)) fun w hw2=>Ok.ret ⟨?_,rfl,hw2.2.2⟩
            exact ⟨by show 0≤c;omega,by show c≤1099511627776;omega,p1,by show pl.1≤y.1 - 1;omega,.inr (.inr (.inr (.inl ⟨hk3,hw2.1,by show w.1≤63;omega,rfl,rfl,rfl⟩)))⟩
          · have hk3:¬(k.1=5∨k.1=6):=fun h=>by rw [hb.2 h] at c3;cases c3
            refine Ok.ite (fun c4=>?_) fun c4=>?_
            · have c4:k.1=7:=by simpa using c4
              refine Ok.bind (next_ok p3 (by omega)) fun w hw2=>Ok.ite (fun _=>Ok.ret hw2.2.2) fun c5=>Ok.ret ⟨?_,rfl,hw2.2.2⟩
              have c5:¬w.1=pl.1:=by simpa using c5
              have hw3:=hw2.2.1
              rw [s1] at hw3
              exact ⟨by show 0≤c;omega,by show c≤1099511627776;omega,p1,by show pl.1≤y.1 - 1;omega,.inr (.inr (.inr (.inr ⟨c4,hw2.1,by show w.1≤y.1 - 1;omega,c5,rfl,rfl,rfl⟩)))⟩
            · have c4:¬k.1=7:=by simpa using c4
              refine Ok.ret ⟨?_,rfl,p3⟩
              exact ⟨by show 0≤c;omega,by show c≤1099511627776;omega,p1,by show pl.1≤y.1 - 1;omega,.inr (.inr (.inl ⟨by show k.1=4;omega,rfl,rfl,rfl,rfl⟩))⟩
    · cases o with
      | nx j=>exact push j.1 j.2 ho.1 ho.2.1 ho.2.2
      | ex r =>
        refine Ok.ret ⟨s1,by simp;omega,fun e he=>⟨(s3 e he).1,by simp [(s3 e he).2]⟩,s4,ho⟩
  · obtain ⟨s1,s2,s3,s4,s5⟩:=hs
    refine ⟨s1,s2,fun e he=>⟨(s3 e he).1,?_⟩,s4,s5⟩
    have:=z3 _ (s3 e he).2
    omega
  · obtain ⟨s1,s2,s3,s4,s5⟩:=hs
    obtain ⟨y1,y2,y3⟩:=hy
    refine ⟨⟨?_,?_,?_,fun e he=>?_,s4⟩,?_,?_,fun e he=>(s3 e he).2,s5⟩<;>simp only [s1]
    · omega
    · omega
    · omega
    · exact (s3 e he).1
    · omega
    · omega
end Go.Ab
namespace Go.Ab
open Go.Proofs
def mok (d:GDirectory) (x:GMember):Prop :=
 (x.Kind=1∨x.Kind=2)∧0≤x.Time∧x.Time≤1099511627776∧(0≤x.Principal∧x.Principal<d.Kinds.length)∧(0≤x.Group∧x.Group<d.Kinds.length∧d.Kinds.getD x.Group.toNat default=2)∧x.Principal≠x.Group
structure GoodD (d:GDirectory):Prop where
 kl:d.Kinds.length≤24
 el:d.Events.length≤120
 kd:∀k∈d.Kinds,1≤k∧k≤3
 ev:∀x∈d.Events,mok d x
 srt:d.Events.Pairwise fun x y=>x.Time≤y.Time
theorem dexists_eq (d:GDirectory) (p:Int):F_w d p=some (decide (0≤p∧p<d.Kinds.length)):=by simp [F_w,grp]
theorem dgroup_eq (d:GDirectory) (p:Int):F_2t d p=some (decide (0≤p∧p<d.Kinds.length∧d.Kinds.getD p.toNat default=2)):=by
 simp only [F_2t,dexists_eq,xX,jn]
 by_cases c:0≤p∧p<d.Kinds.length
 ·simp [c,chk_true (inb_iff.2 c)]
 ·have:¬(0≤p∧p<(d.Kinds.length:Int)∧d.Kinds.getD p.toNat default=2):=fun h=>c ⟨h.1,h.2.1⟩
  simp only [wF c,wF this,vJ,xX]
def dchain (d:GDirectory):Int→List GMember→Prop
 | _,[]=>True
 | last,x::r=>(last≤x.Time∧mok d x)∧dchain d x.Time r
theorem dchain_iff {d:GDirectory}:∀{l:List GMember} {last:Int},dchain d last l↔((∀x∈l,last≤x.Time∧mok d x)∧l.Pairwise fun x y=>x.Time≤y.Time)
 | [],_=>by simp [dchain]
 | x::r,last=>by
  simp only [dchain,dchain_iff,wW,List.pairwise_cons]
  constructor
  ·rintro ⟨h1,h2,h3⟩
   refine ⟨fun y hy=>?_,fun y hy=>(h2 y hy).1,h3⟩
   rcases hy with rfl|hy
   ·exact h1
   ·have:=h1.1
    exact ⟨by have:=(h2 y hy).1;omega,(h2 y hy).2⟩
  ·rintro ⟨h1,h2,h3⟩
   exact ⟨h1 x (.inl rfl),fun y hy=>⟨h2 y hy,(h1 y (.inr hy)).2⟩,h3⟩
theorem dchkL_eq (d:GDirectory):∀(l:List GMember) (k last:Int),0≤last→∃o,forL (F_52 d) l k last=some o∧(dchain d last l→∃s,o=.nx s)∧(¬dchain d last l→o=.ex 30)
 | [],k,last,_=>⟨.nx last,rfl,fun _=>⟨_,rfl⟩,fun h=>absurd trivial h⟩
 | x :: r,k,last,h0=>by
  simp only [forL,F_52,grp,dexists_eq,dgroup_eq,jn]
  by_cases c:last≤x.Time∧mok d x
  ·obtain ⟨c1,c2,c3,c4,c5,c6,c7⟩:=c
   have e1:(!decide (x.Kind=1)&&!decide (x.Kind=2))=false:=by
    rcases c2 with h|h<;>simp [h]
   have e2:decide (x.Time<last)=false:=wF (by omega)
   have e3:decide (1099511627776<x.Time)=false:=wF (by omega)
   simp only [e1,e2,e3,Bool.or_self,vJ,xX,wS c5,wY,wS c6,wF c7,Fl_nx]
   obtain ⟨o,h1,h2,h3⟩:=dchkL_eq d r (k+1) x.Time c3
   refine ⟨o,h1,fun h=>h2 h.2,fun h=>h3 fun hc=>h ⟨⟨c1,c2,c3,c4,c5,c6,c7⟩,hc⟩⟩
  ·refine ⟨.ex 30,?_,fun h=>absurd h.1 c,fun _=>rfl⟩
   by_cases d1:x.Kind=1∨x.Kind=2
   ·have e1:(!decide (x.Kind=1)&&!decide (x.Kind=2))=false:=by
     rcases d1 with h|h<;>simp [h]
    by_cases d2:x.Time<last∨1099511627776<x.Time
    ·have:(decide (x.Time<last)||decide (1099511627776<x.Time))=true:=by simpa using d2
     simp only [e1,wZ,this,vL,xX,Fl_ex]
    ·have:(decide (x.Time<last)||decide (1099511627776<x.Time))=false:=by
      simp only [xB,zK];omega
     simp only [e1,wZ,this,vJ,xX]
     by_cases d3:0≤x.Principal∧x.Principal<d.Kinds.length
     ·simp only [wS d3,wY,vJ]
      by_cases d4:0≤x.Group∧x.Group<d.Kinds.length∧d.Kinds.getD x.Group.toNat default=2
      ·have d5:x.Principal=x.Group:=Classical.byContradiction fun hne=>c ⟨by omega,d1,by omega,by omega,d3,d4,hne⟩
       simp only [wS d4,wS d5,wY,wZ,vL,xX,Fl_ex]
      ·simp only [wF d4,wU,Bool.true_or,vL,xX,Fl_ex]
     ·simp only [wF d3,wU,vL,xX,Fl_ex]
   ·have e1:(!decide (x.Kind=1)&&!decide (x.Kind=2))=true:=by
     simp only [not_or] at d1
     simp [d1.1,d1.2]
    simp only [e1,Bool.true_or,vL,xX,Fl_ex]
theorem find_negD {α:Type} {body:Int→α→Unit→Option (Fl Unit Int)} (p:α→Prop) [DecidablePred p] (h:∀k x,body k x ()=some (if p x then .ex k else .nx ())):∀(xs:List α) (k:Int),0≤k →
  ∃o,forL body xs k ()=some o∧((∃x∈xs,p x)→∃r,o=.ex r∧0≤r)∧((∀x∈xs,¬p x)→o=.nx ())
 | [],k,hk=>⟨.nx (),rfl,fun ⟨x,hx,_⟩=>by simp at hx,fun _=>rfl⟩
 | x::r,k,hk=>by
  simp only [forL,h]
  by_cases c:p x
  ·simp only [if_pos c,xX,Fl_ex]
   exact ⟨_,rfl,fun _=>⟨k,rfl,hk⟩,fun hn=>absurd c (hn x (by simp))⟩
  ·simp only [if_neg c,xX,Fl_nx]
   obtain ⟨o,h1,h2,h3⟩:=find_negD p h r (k+1) (by omega)
   refine ⟨o,h1,fun ⟨y,hy,hp⟩=>?_,fun hn=>h3 fun y hy=>hn y (by simp [hy])⟩
   rcases wW.1 hy with rfl|hy
   ·exact absurd hp c
   ·exact h2 ⟨y,hy,hp⟩
theorem contains_ofD {α:Type} {body:Int→α→Unit→Option (Fl Unit Int)} (p:α→Prop) [DecidablePred p] (xs:List α) [Decidable (∃x∈xs,p x)] (h:∀k x,body k x ()=some (if p x then .ex k else .nx ())) :
  (((forL body xs 0 ()).bind fun o=>o.elim (fun _=>some (-1)) fun r=>some r).bind fun y=>some (decide (0≤y)))=some (decide (∃x∈xs,p x)):=by
 obtain ⟨o,h1,h2,h3⟩:=find_negD p h xs 0 (vI 0)
 rw [h1]
 by_cases c:∃x∈xs,p x
 ·obtain ⟨r,rfl,hr⟩:=h2 c
  simp only [xX,Fl_ex,wS hr,wS c]
 ·have:=h3 fun x hx hp=>c ⟨x,hx,hp⟩
  subst this
  simp only [xX,Fl_nx,wF c]
  rfl
theorem dcont_eq (s:List Int) (v:Int):F_q s v=some (decide (v∈s)):=by
 have h:=contains_ofD (body:=F_22 v) (fun y=>v=y) s fun k y=>by
  by_cases c:v=y<;>simp [F_22,c]
 have e:decide (∃y∈s,v=y)=decide (v∈s):=decide_eq_decide.2 ⟨fun ⟨y,hy,e⟩=>e▸hy,fun h=>⟨v,h,rfl⟩⟩
 rw [e] at h
 exact h
theorem goodD_iff (d:GDirectory):GoodD d↔d.Kinds.length≤24∧d.Events.length≤120∧(∀k∈d.Kinds,1≤k∧k≤3)∧dchain d 0 d.Events:=by
 rw [dchain_iff]
 exact ⟨fun h=>⟨h.kl,h.el,h.kd,fun x hx=>⟨(h.ev x hx).2.1,h.ev x hx⟩,h.srt⟩,fun ⟨h1,h2,h3,h4,h5⟩=>⟨h1,h2,h3,fun x hx=>(h4 x hx).2,h5⟩⟩
open Classical in
theorem dcheck_eq (d:GDirectory):F_1i d=some (if GoodD d then 0 else 30):=by
 simp only [F_1i,grp]
 by_cases h1:d.Kinds.length≤24∧d.Events.length≤120
 ·have e1:(decide (24<(d.Kinds.length:Int))||decide (120<(d.Events.length:Int)))=false:=by
   simp only [xB,zK];omega
  have e2:F_42 d.Kinds=some (decide (∃k∈d.Kinds,¬(1≤k∧k≤3))):=by
   refine contains_ofD (fun k=>¬(1≤k∧k≤3)) d.Kinds fun k x=>?_
   simp only [F_6b,F_v,grp,xX]
   by_cases c:1≤x∧x≤3
   ·have:(decide (x<1)||decide (3<x))=false:=by simp only [xB,zK];omega
    simp [this,c]
   ·have:(decide (x<1)||decide (3<x))=true:=by simp only [wQ,xM];omega
    simp only [this,vL,c,not_false_eq_true,if_true]
  simp only [e1,e2,vJ,xX]
  by_cases q:∃k∈d.Kinds,¬(1≤k∧k≤3)
  ·have:¬GoodD d:=fun h=>by obtain ⟨k,hk,hn⟩:=q;exact hn (h.kd k hk)
   simp only [wS q,vL,if_neg this]
  ·simp only [wF q,vJ]
   have q':∀k∈d.Kinds,1≤k∧k≤3:=fun k hk=>Classical.byContradiction fun hn=>q ⟨k,hk,hn⟩
   obtain ⟨o,k1,k2,k3⟩:=dchkL_eq d d.Events 0 0 (vI 0)
   rw [k1]
   by_cases c:dchain d 0 d.Events
   ·obtain ⟨s,rfl⟩:=k2 c
    simp only [xX,Fl_nx,if_pos ((goodD_iff d).2 ⟨h1.1,h1.2,q',c⟩)]
   ·rw [k3 c]
    have:¬GoodD d:=fun h=>c ((goodD_iff d).1 h).2.2.2
    simp only [xX,Fl_ex,if_neg this]
 ·have e1:(decide (24<(d.Kinds.length:Int))||decide (120<(d.Events.length:Int)))=true:=by
   simp only [wQ,xM];omega
  have:¬GoodD d:=fun h=>h1 ⟨h.kl,h.el⟩
  simp only [e1,vL,if_neg this]
theorem dknown_eq {d:GDirectory} (g:GoodD d) (p:Int):F_2z d p=some (decide (0≤p∧p<d.Kinds.length)):=by
 simp only [F_2z,dcheck_eq,if_pos g,xX,decide_true,vL,dexists_eq,jn]
end Go.Ab
namespace Go.Ab
open Go.Proofs
inductive RT (L:Nat→Nat→Bool) (n p:Nat):Nat→Prop
 | refl:RT L n p p
 | step {a b:Nat} (h:RT L n p a) (ha:a<n) (hb:b<n) (hl:L a b=true):RT L n p b
theorem room_smD {n b:Nat} (h:n*b≤1000000):room n b=true:=room_iff.2 (by omega)
theorem in64_smD {n:Int} (h1:-1000000000000000≤n) (h2:n≤1000000000000000):in64 n=true:=in64_iff.2 ⟨by omega,by omega⟩
def gt (o:List Bool):Nat→Bool:=fun i=>o.getD i false
theorem gt_set {o:List Bool} {k:Nat} (hk:k<o.length) (i:Nat):gt (o.set k true) i=if i=k then true else gt o i:=by
 simp only [gt,zE,xP]
 by_cases e:k=i
 ·subst e;simp [hk]
 ·rw [if_neg e,if_neg (fun h=>e h.symm)]
theorem uprow_ok {L:Nat→Nat→Bool} {n p:Nat} (hn:n≤24) {row:List Bool} (hr:row.length=n) {a:Nat} (ha:a<n) (hL:∀i,i<n→row.getD i false=L a i) (q:List Int) (o:List Bool) (ho:o.length=n) (hq:q.length≤100)
  (hR:∀i,i<n→gt o i=true→RT L n p i) (hRa:RT L n p a) :
  Ok (foldL F_55 row 0 (q,o)) fun s=>∃news,s.1=q++news∧s.2.length=n∧(∀x∈news,0≤x∧x<n∧gt s.2 x.toNat=true)∧(∀i,gt o i=true→gt s.2 i=true)∧(∀i,i<n→gt s.2 i=true→RT L n p i) ∧
   (∀i,i<n→L a i=true→gt s.2 i=true)∧(∀i,i<n→gt s.2 i=true→gt o i=true∨(i:Int)∈news)∧cnt (gt s.2) n=cnt (gt o) n+news.length:=by
 refine Ok.foldI (all:=row) (fun pre s=>∃news,s.1=q++news∧s.2.length=n∧(∀x∈news,0≤x∧x<n∧gt s.2 x.toNat=true)∧(∀i,gt o i=true→gt s.2 i=true)∧(∀i,i<n→gt s.2 i=true→RT L n p i) ∧
   (∀i,i<pre.length→L a i=true→gt s.2 i=true)∧(∀i,i<n→gt s.2 i=true→gt o i=true∨(i:Int)∈news)∧cnt (gt s.2) n=cnt (gt o) n+news.length) row [] 0 _ rfl rfl ⟨[],by simp,ho,by simp,fun _ h=>h,hR,fun i hi=>by simp at hi,fun i _ h=>.inl h,by simp⟩ (fun pre x r s hw hs=>?_) fun s hs=>by rw [hr] at hs;exact hs
 obtain ⟨q',o'⟩:=s
 obtain ⟨news,rfl,h1,h2,h3,h4,h5,h6,h7⟩:=hs
 simp only at h1 h2 h3 h4 h5 h6 h7
 have hlen:pre.length<n:=by rw [←hr,hw];simp
 have hx:x=L a pre.length:=by rw [←hL _ hlen,hw];simp
 unfold F_55
 have hi:inb (pre.length:Int) o'.length=true:=inb_iff.2 ⟨by omega,by omega⟩
 have hg:o'.getD (pre.length:Int).toNat default=gt o' pre.length:=by simp [gt]
 cases hxx:x with
 | false =>
  simp only [vJ,jn,xX]
  refine Ok.ret ⟨news,rfl,h1,h2,h3,h4,fun i hi' hl=>?_,h6,h7⟩
  simp only [xH,zV] at hi'
  by_cases e:i=pre.length
  ·subst e;rw [←hx,hxx] at hl;cases hl
  ·exact h5 i (by omega) hl
 | true =>
  have hla:L a pre.length=true:=by rw [←hx,hxx]
  simp only [vL,jn,chk_true hi,xX,hg]
  cases hgo:gt o' pre.length with
  | true =>
   simp only [wY,vJ]
   refine Ok.ret ⟨news,rfl,h1,h2,h3,h4,fun i hi' hl=>?_,h6,h7⟩
   simp only [xH,zV] at hi'
   by_cases e:i=pre.length
   ·subst e;exact hgo
   ·exact h5 i (by omega) hl
  | false =>
   simp only [wU,vL]
   have hc1:=cnt_le (gt o') n
   refine Ok.chk (room_smD (by simp;omega)) ?_
   have hset:∀i,gt (o'.set (pre.length:Int).toNat true) i=if i=pre.length then true else gt o' i:=fun i=>by
    have:=gt_set (o:=o') (k:=pre.length) (by omega) i
    simpa using this
   have hmono:∀i,gt o' i=true→gt (o'.set (pre.length:Int).toNat true) i=true:=fun i h=>by rw [hset];split<;>simp [h]
   refine Ok.ret ⟨news++[(pre.length:Int)],by simp,by simp [h1],fun y hy=>?_,fun i h=>hmono i (h3 i h),fun i hi' h=>?_,fun i hi' hl=>?_,fun i hi' h=>?_,?_⟩
   ·simp only [wK,xF] at hy
    rcases hy with hy|rfl
    ·obtain ⟨a1,a2,a3⟩:=h2 y hy
     exact ⟨a1,a2,hmono _ a3⟩
    ·exact ⟨by omega,by omega,by simp only [hset];simp⟩
   ·simp only [hset] at h
    by_cases e:i=pre.length
    ·subst e;exact .step hRa ha hlen hla
    ·rw [if_neg e] at h;exact h4 i hi' h
   ·simp only [xH,zV] at hi'
    by_cases e:i=pre.length
    ·simp only [hset,e,if_true]
    ·exact hmono i (h5 i (by omega) hl)
   ·simp only [hset] at h
    by_cases e:i=pre.length
    ·exact .inr (by simp [e])
    ·rw [if_neg e] at h
     rcases h6 i hi' h with h|h
     ·exact .inl h
     ·exact .inr (by simp [h])
   ·have:cnt (gt (o'.set (pre.length:Int).toNat true)) n=cnt (gt o') n+1:=by
     have key:∀m,cnt (gt (o'.set (pre.length:Int).toNat true)) m=cnt (gt o') m+(if pre.length<m then 1 else 0):=by
      intro m
      induction m with
      | zero=>simp [cnt]
      | succ m ih =>
       simp only [cnt,ih,hset]
       by_cases e:m=pre.length
       ·subst e;rw [hgo];simp
       ·rw [if_neg e]
        by_cases c:pre.length<m
        ·rw [if_pos c,if_pos (by omega)];omega
        ·rw [if_neg c,if_neg (by omega)];omega
     rw [key,if_pos hlen]
    simp only [this,xH,zV]
    omega
theorem upward_ok {L:Nat→Nat→Bool} {n p:Nat} (hn:n≤24) (hp:p<n) (T:List (List Bool)) (hT:T.length=n) (hrow:∀a,a<n→(T.getD a default).length=n∧∀i,i<n→(T.getD a default).getD i false=L a i) :
  Ok (F_30 T (p:Int)) fun o=>o.length=n∧∀i,i<n→(gt o i=true↔RT L n p i):=by
 unfold F_30
 rw [hT]
 have hl0:(List.replicate ((n:Int)).toNat false).length=n:=by simp
 refine Ok.chk (roomI_iff.2 ⟨by omega,by omega,by omega⟩) (Ok.chk (inb_iff.2 ⟨by omega,by rw [hl0];omega⟩) ?_)
 have hset:∀i,gt ((List.replicate ((n:Int)).toNat false).set ((p:Int)).toNat true) i=if i=p then true else gt (List.replicate n false) i:=fun i=>by
  have:=gt_set (o:=List.replicate n false) (k:=p) (by simpa using hp) i
  simpa using this
 have hrep:∀i,gt (List.replicate n false) i=false:=fun i=>by
  simp only [gt,zE,List.getElem?_replicate]
  split<;>rfl
 refine Ok.bind (Ok.loop (Q:=fun o:List Bool=>o.length=n∧∀i,i<n→(gt o i=true↔RT L n p i))
  (fun (s:List Int×List Bool)=>s.2.length=n∧(∀x∈s.1,0≤x∧x<n∧gt s.2 x.toNat=true)∧(∀i,i<n→gt s.2 i=true→RT L n p i)∧gt s.2 p=true∧(∀a,a<n→gt s.2 a=true→(a:Int)∉s.1→∀b,b<n→L a b=true→gt s.2 b=true)∧s.1.length≤cnt (gt s.2) n)
  (fun (s:List Int×List Bool)=>2*(n - cnt (gt s.2) n)+s.1.length) (fun s hs=>?_) _ ?_) fun r hr=>Ok.ret hr
 ·obtain ⟨q,o⟩:=s
  obtain ⟨i1,i2,i3,i4,i5,i6⟩:=hs
  simp only at i1 i2 i3 i4 i5 i6
  unfold F_6c
  have hcn:=cnt_le (gt o) n
  refine Ok.ite (fun cq=>?_) fun cq=>?_
  ·have cq:0<(q.length:Int):=by simpa using cq
   obtain ⟨q0,rest,rfl⟩:∃a r,q=a::r:=by
    cases q with
    | nil=>simp at cq
    | cons a r=>exact ⟨a,r,rfl⟩
   have e0:(q0::rest).getD 0 default=q0:=rfl
   obtain ⟨b1,b2,b3⟩:=i2 q0 (by simp)
   refine Ok.chk (inb_iff.2 ⟨by omega,cq⟩) ?_
   simp only [e0]
   have hqa:q0.toNat<n:=by omega
   obtain ⟨r1,r2⟩:=hrow q0.toNat hqa
   refine Ok.chk (inb_iff.2 ⟨by omega,by rw [hT];exact b2⟩) (Ok.bind (uprow_ok (p:=p) hn r1 hqa r2 (q0::rest) o i1 (by omega) i3 (i3 _ hqa b3)) fun s hs=>?_)
   obtain ⟨q',o'⟩:=s
   obtain ⟨news,hq',h1,h2,h3,h4,h5,h6,h7⟩:=hs
   simp only at hq' h1 h2 h3 h4 h5 h6 h7
   subst hq'
   have hcn':=cnt_le (gt o') n
   refine Ok.chk (inc_iff.2 ⟨by omega,by simp;omega,by omega⟩) (Ok.ret ?_)
   have e1:(((q0::rest)++news).drop 1).take (((q0::rest)++news).length - 1)=rest++news:=by
    simp only [wB,xC,wT,x8,Nat.add_sub_cancel]
    exact xY
   rw [e1]
   refine ⟨⟨h1,fun x hx=>?_,h4,h3 p i4,fun a ha hga hna b hb hl=>?_,?_⟩,?_⟩
   ·rcases wK.1 hx with hx|hx
    ·obtain ⟨c1,c2,c3⟩:=i2 x (by simp [hx])
     exact ⟨c1,c2,h3 _ c3⟩
    ·exact h2 x hx
   ·simp only [wK,not_or] at hna
    rcases h6 a ha hga with hoa|hnew
    ·by_cases e:(a:Int)=q0
     ·have:a=q0.toNat:=by omega
      subst this
      exact h5 b hb hl
     ·exact h3 b (i5 a ha hoa (by simp only [wW,not_or];exact ⟨e,hna.1⟩) b hb hl)
    ·exact absurd hnew hna.2
   ·simp only [xH,x8] at i6 ⊢
    omega
   ·show 2*(n - cnt (gt o') n)+(rest++news).length<2*(n - cnt (gt o) n)+(q0::rest).length
    simp only [xH,x8] at i6 ⊢
    omega
  ·have:q=[]:=by
    have cq:¬0<(q.length:Int):=by simpa using cq
    exact zM.1 (by omega)
   subst this
   refine Ok.ret ⟨i1,fun i hi=>⟨i3 i hi,fun h=>?_⟩⟩
   induction h with
   | refl=>exact i4
   | step h ha hb hl ih=>exact i5 _ ha (ih ha) (by simp) _ hb hl
 ·refine ⟨by simp,fun x hx=>?_,fun i hi h=>?_,by simp only [hset,if_true],fun a ha h hna=>?_,?_⟩
  ·simp only [xF] at hx
   subst hx
   exact ⟨by omega,by omega,by simp only [hset];simp⟩
  ·simp only [hset,hrep] at h
   by_cases e:i=p
   ·subst e;exact .refl
   ·rw [if_neg e] at h;cases h
  ·simp only [hset,hrep] at h
   by_cases e:a=p
   ·subst e;simp at hna
   ·rw [if_neg e] at h;cases h
  ·exact cnt_pos (j:=p) (by simp only [hset,if_true]) n hp
end Go.Ab
namespace Go.Ab
open Go.Proofs
def dlk (d:GDirectory) (t:Int):Nat→Nat→Bool:=zk (ev4 (d.Events.map fun e=>(e.Time,e.Kind,e.Principal,e.Group))) t d.Events.length
open Classical in
noncomputable def upl (d:GDirectory) (p t:Int):List Int:=((List.range d.Kinds.length).filter fun i=>decide (RT (dlk d t) d.Kinds.length p.toNat i)).map fun i:Nat=>(i:Int)
theorem at_eq {d:GDirectory} (g:GoodD d) (t:Int):atF d.Kinds.length (d.Events.map fun e=>(e.Time,e.Kind,e.Principal,e.Group)) t=some ((List.range d.Kinds.length).map fun j=>(List.range d.Kinds.length).map fun i=>dlk d t j i):=by
 have hk:=g.kl
 unfold atF
 rw [chk_true (by simp;omega),chk_true]
 ·simp [dlk]
 ·simp only [wC,vB]
  rintro _ ⟨e,he,rfl⟩
  obtain ⟨_,_,_,h4,h5,_⟩:=g.ev e he
  have e1:inb e.Principal d.Kinds.length=true:=inb_iff.2 h4
  have e2:inb e.Group d.Kinds.length=true:=inb_iff.2 ⟨h5.1,h5.2.1⟩
  simp [e1,e2]
theorem those_eq (l:List Bool) (h:l.length≤24):F_31 l=some (((List.range l.length).filter (gt l)).map fun i:Nat=>(i:Int)):=by
 refine Ok.eq ?_
 unfold F_31
 refine Ok.bind (Ok.foldI (all:=l) (fun pre s=>s=((List.range pre.length).filter (gt l)).map fun i:Nat=>(i:Int)) l [] 0 [] rfl rfl rfl (fun pre x r s hw hs=>?_) fun s hs=>hs) fun s hs=>Ok.ret hs
 subst hs
 unfold F_6d
 have hp:pre.length<l.length:=by rw [hw];simp
 have hx:gt l pre.length=x:=by rw [hw];simp [gt]
 have hlen:(((List.range pre.length).filter (gt l)).map fun i:Nat=>(i:Int)).length≤pre.length:=by
  rw [wM];exact w8 (List.length_filter_le _ _) (by simp)
 simp only [xH,zV,List.range_succ,List.filter_append,List.map_append]
 cases x
 ·simp only [vJ]
  exact Ok.ret (by simp [hx])
 ·simp only [vL]
  exact Ok.chk (room_smD (by simp only [wM] at hlen ⊢;omega)) (Ok.ret (by simp [hx]))
theorem upward_eq {d:GDirectory} (g:GoodD d) {p:Int} (t:Int) (h0:0≤p) (h1:p<d.Kinds.length):F_1m d p t=some (upl d p t):=by
 have hk:decide (0≤p∧p<(d.Kinds.length:Int))=true:=wS ⟨h0,h1⟩
 simp only [F_1m,dknown_eq g,hk,xX,wY,vJ,at_eq g]
 obtain ⟨o,ho,ho1,ho2⟩:=upward_ok (L:=dlk d t) (n:=d.Kinds.length) (p:=p.toNat) g.kl (by omega) ((List.range d.Kinds.length).map fun j=>(List.range d.Kinds.length).map fun i=>dlk d t j i) (by simp) fun a ha=>by
  have e:((List.range d.Kinds.length).map fun j=>(List.range d.Kinds.length).map fun i=>dlk d t j i).getD a default=(List.range d.Kinds.length).map fun i=>dlk d t a i:=by simp [zE,ha]
  rw [e]
  exact ⟨by simp,fun i hi=>by simp [zE,hi]⟩
 rw [show ((p.toNat:Nat):Int)=p by omega] at ho
 rw [ho]
 have hl:=g.kl
 simp only [xX,those_eq o (by rw [ho1];exact hl)]
 simp only [upl,ho1]
 congr 2
 refine List.filter_congr fun i hi=>?_
 have:=ho2 i (List.mem_range.1 hi)
 cases e:gt o i with
 | true=>simp [this.1 e]
 | false =>
  have h:¬RT (dlk d t) d.Kinds.length p.toNat i:=fun h=>by rw [this.2 h] at e;cases e
  simp [h]
def rdr (d:GDirectory) (p:Int):Prop:=0≤p∧p<d.Kinds.length∧d.Kinds.getD p.toNat default≠2
theorem reader_eq (d:GDirectory) (p:Int) [Decidable (rdr d p)]:F_2x d p=some (decide (rdr d p)):=by
 simp only [F_2x,grp,jn]
 by_cases c:0≤p∧p<(d.Kinds.length:Int)
 ·have e:(decide (0≤p)&&decide (p<(d.Kinds.length:Int)))=true:=by simpa using c
  simp only [e,vL,chk_true (inb_iff.2 c),xX]
  congr 1
  by_cases q:d.Kinds.getD p.toNat default=2
  ·rw [wS q,wF (fun h:rdr d p=>h.2.2 q)];rfl
  ·rw [wF q,wS (show rdr d p from ⟨c.1,c.2,q⟩)];rfl
 ·have e:(decide (0≤p)&&decide (p<(d.Kinds.length:Int)))=false:=by
   cases h:(decide (0≤p)&&decide (p<(d.Kinds.length:Int)))
   ·rfl
   ·exact absurd (by simpa using h) c
  simp only [e,vJ,xX]
  rw [wF (fun h:rdr d p=>c ⟨h.1,h.2.1⟩)]
open Classical in
theorem fine_eq {d:GDirectory} {a:GEstate} (g:GoodD d) (h:Good a) (p pl:Int):F_2y d a p pl=some (decide (rdr d p∧0≤pl∧pl≤a.Places - 1)):=by
 simp only [F_2y,F_1j,dcheck_eq,check_eq,if_pos g,if_pos h,xX,jn,reader_eq,place_eq a pl h.lo h.hi]
 by_cases c:rdr d p<;>simp [c]
theorem rgr_go (U:List Int):∀(xs:List Int) (k:Int),forL (F_58 U) xs k ()=some (match xs.find? (fun x=>decide (x∈U)) with|some x=>.ex (x,true)|none=>.nx ())
 | [],k=>rfl
 | x::r,k=>by
  simp only [forL,F_58,dcont_eq,xX,List.find?_cons]
  by_cases c:x∈U
  ·simp [c,Fl_ex]
  ·simp [c,Fl_nx,rgr_go U r (k+1)]
def fst0 (o:Option Int):Int×Bool:=match o with|some x=>(x,true)|none=>(0,false)
theorem rgrant_eq {d:GDirectory} {a:GEstate} {p pl t:Int} {U G:List Int} (h1:F_1m d p t=some U) (h2:F_1n a pl t=some G):F_33 d a p pl t=some (fst0 (G.find? fun x=>decide (x∈U))):=by
 simp only [F_33,h1,h2,xX,rgr_go]
 cases G.find? (fun x=>decide (x∈U))<;>simp [fst0,Fl_nx,Fl_ex]
def mayP (d:GDirectory) (a:GEstate) (p pl t:Int):Prop :=
 (rdr d p∧0≤pl∧pl≤a.Places - 1)∧((lkf pl t a.Events 0 (0,false)).2=true∨∃x∈keysf pl t a.Events,x∈upl d p t)
open Classical in
theorem may_eq {d:GDirectory} {a:GEstate} (g:GoodD d) (h:Good a) (p pl t:Int):F_34 d a p pl t=some (decide (mayP d a p pl t)):=by
 simp only [F_34,fine_eq g h,xX,grp]
 by_cases c:rdr d p∧0≤pl∧pl≤a.Places - 1
 ·have hk:=known_of h c.2.1 c.2.2
  rw [linked_eq t hk,rgrant_eq (upward_eq g t c.1.1 c.1.2.1) (granted_eq t h.len hk)]
  simp only [wS c,wY,vJ,xX]
  congr 1
  by_cases q:∃x∈keysf pl t a.Events,x∈upl d p t
  ·have:(fst0 ((srtI (keysf pl t a.Events)).find? fun x=>decide (x∈upl d p t))).2=true:=by
    obtain ⟨x,hx,hu⟩:=q
    cases e:(srtI (keysf pl t a.Events)).find? fun x=>decide (x∈upl d p t) with
    | some y=>rfl
    | none =>
     have:=List.find?_eq_none.1 e x (srtI_mem.2 hx)
     simp [hu] at this
   rw [this,Bool.or_true]
   exact (wS (show mayP d a p pl t from ⟨c,.inr q⟩)).symm
  ·have:(fst0 ((srtI (keysf pl t a.Events)).find? fun x=>decide (x∈upl d p t))).2=false:=by
    cases e:(srtI (keysf pl t a.Events)).find? fun x=>decide (x∈upl d p t) with
    | none=>rfl
    | some y =>
     refine absurd ⟨y,srtI_mem.1 (List.mem_of_find?_eq_some e),?_⟩ q
     have:=List.find?_some e
     simpa using this
   rw [this,Bool.or_false]
   cases e:(lkf pl t a.Events 0 (0,false)).2 with
   | true=>exact (wS (show mayP d a p pl t from ⟨c,.inl e⟩)).symm
   | false =>
    refine (wF fun hm:mayP d a p pl t=>?_).symm
    rcases hm.2 with h|h
    ·rw [e] at h;cases h
    ·exact q h
 ·simp only [wF c,wU,vL]
  congr 1
  exact (wF fun hm:mayP d a p pl t=>c hm.1).symm
end Go.Ab
namespace Go.Ab
open Go.Proofs
theorem compactUpTo_memG (d:Array Int):∀(m i:Nat),i<m→d[i]! ∈ Go.Lib.compactUpTo d m
 | 0,i,h=>by omega
 | m + 1,i,h=>by
  rw [Go.Lib.compactUpTo_succ,wK]
  rcases Nat.lt_or_ge i m with h1|h1
  ·exact .inl (compactUpTo_memG d m i h1)
  ·have e:i=m:=by omega
   subst e
   cases hk:Go.Lib.keeps d i with
   | true=>right;simp [hk]
   | false =>
    left
    cases i with
    | zero=>simp [Go.Lib.keeps] at hk
    | succ i =>
     have h2:d[i+1]! = d[i]! := by
      by_cases c:d[i+1]! = d[i]!
      ·exact c
      ·have:=Go.Lib.keeps_pos (d:=d) (m:=i+1) (by simpa using c)
       rw [hk] at this;cases this
     rw [h2]
     exact compactUpTo_memG d (i+1) i (by omega)
theorem compact_allG (xs:List Int):∀x∈xs,x∈Go.Lib.compact xs:=by
 intro x hx
 obtain ⟨i,hi,rfl⟩:=z8.1 hx
 have:=compactUpTo_memG xs.toArray xs.length i hi
 simpa [Go.Lib.compact,hi] using this
theorem compact_iff {xs:List Int} {x:Int}:x∈Go.Lib.compact xs↔x∈xs:=⟨compact_mem xs x,compact_allG xs x⟩
theorem compact_sub (xs:List Int):(Go.Lib.compact xs).Sublist xs:=by
 have h:(List.range xs.length).map (fun i=>xs.toArray[i]!)=xs:=by
  apply List.ext_getElem
  ·simp
  ·intro i h1 h2
   simp [h2]
 have:=(List.filter_sublist (p:=Go.Lib.keeps xs.toArray) (l:=List.range xs.length)).map (fun i=>xs.toArray[i]!)
 rw [h] at this
 exact this
theorem times_eqG {a:GEstate} (g:Good a):F_1k a=some (Go.Lib.compact (a.Events.map GAccess.Time)):=by
 simp only [F_1k,check_eq,if_pos g,xX,decide_true,wY,vJ]
 have h:=g.len
 rw [foldL_push (body:=F_43) (g:=GAccess.Time) (b:=8) (n:=120) (by omega) (fun k x s=>rfl) a.Events 0 [] (by simpa using h)]
 simp only [xX,compactI,wI,wT]
 rw [List.take_left']
 rfl
def tms (d:GDirectory) (a:GEstate):List Int:=Go.Lib.compact (srtI (Go.Lib.compact (a.Events.map GAccess.Time)++d.Events.map GMember.Time))
theorem mem_tms {d:GDirectory} {a:GEstate} {t:Int}:t∈tms d a↔(∃x∈a.Events,x.Time=t)∨∃x∈d.Events,x.Time=t:=by
 simp only [tms,compact_iff,srtI_mem,wK,vB]
theorem tms_sorted (d:GDirectory) (a:GEstate):(tms d a).Pairwise fun x y=>x≤y:=(srtI_sorted _).sublist (compact_sub _)
theorem etimes_eq {d:GDirectory} {a:GEstate} (g:GoodD d) (h:Good a):F_2w d a=some (tms d a):=by
 have h1:=h.len
 have h2:=g.el
 have h3:=(compact_sub (a.Events.map GAccess.Time)).length_le
 rw [wM] at h3
 simp only [F_2w,times_eqG h,xX]
 rw [foldL_push (body:=F_44) (g:=GMember.Time) (b:=8) (n:=240) (by omega) (fun k x s=>rfl) d.Events 0 _ (by omega)]
 simp only [xX,sortI,xH,wM]
 rw [if_pos (by omega)]
 simp only [xX,compactI,wT]
 rw [List.take_left']
 ·rfl
 ·rfl
theorem bit_eq {c:Int} (h0:0≤c) (h1:c≤63):F_x c=some (IntKind.wrap .u64 (1*2^c.toNat)):=by
 unfold F_x
 have:shok c 64=true:=by rw [←shok_and64];omega
 rw [chk_true this]
theorem happen_no {s:List Int} {x:GAccess} (h5:x.Kind≠5) (h6:x.Kind≠6) (h7:x.Kind≠7):F_5 s x=some s:=by
 simp [F_5,h5,h6,h7]
theorem happen_ok {P:Int} {s:List Int} {x:GAccess} (h:xok P x) (hs:(s.length:Int)=P):Ok (F_5 s x) fun s'=>s'.length=s.length:=by
 obtain ⟨_,_,h3,h4,h5⟩:=h
 have hp:inb x.Place s.length=true:=inb_iff.2 ⟨h3,by omega⟩
 unfold F_5
 refine Ok.ite (fun c=>?_) fun c=>Ok.ite (fun c2=>?_) fun c2=>Ok.ite (fun c3=>?_) fun c3=>Ok.ret rfl
 ·have c:x.Kind=5:=by simpa using c
  exact Ok.chk hp (Ok.bind (P:=fun _=>True) (Ok.of (bit_eq (by omega) (by omega)) trivial) fun _ _=>Ok.chk hp (Ok.ret (by simp)))
 ·have c2:x.Kind=6:=by simpa using c2
  exact Ok.chk hp (Ok.bind (P:=fun _=>True) (Ok.of (bit_eq (by omega) (by omega)) trivial) fun _ _=>Ok.chk hp (Ok.ret (by simp)))
 ·have c3:x.Kind=7:=by simpa using c3
  have hf:inb x.From s.length=true:=inb_iff.2 ⟨by omega,by omega⟩
  exact Ok.chk hp (Ok.chk hf (Ok.chk hp (Ok.ret (by simp))))
theorem cat_ok {a:GEstate} (g:Good a) (t:Int):Ok (F_a a t) fun s=>(s.length:Int)=a.Places:=by
 have h1:=g.lo
 have h2:=g.hi
 unfold F_a
 refine Ok.chk (roomI_iff.2 ⟨by omega,by omega,by omega⟩) (Ok.bind (Ok.foldI (all:=a.Events) (fun _ s=>(s.length:Int)=a.Places) a.Events [] 0 _ rfl rfl (by simp;omega) (fun pre x r s hw hs=>?_) fun s hs=>hs) fun s hs=>Ok.ret hs)
 unfold F_y
 refine Ok.ite (fun _=>Ok.bind (happen_ok (g.ev x (by rw [hw];simp)) hs) fun y hy=>Ok.ret ?_) fun _=>Ok.ret hs
 rw [hy];exact hs
theorem where_ok {a:GEstate} (g:Good a) {c:Int} (h0:0≤c) (h1:c≤63) (t:Int):Ok (F_d a c t) fun W=>∀x∈W,0≤x∧x≤a.Places - 1:=by
 have hc:F_8 c=some true:=by simp [F_8,among_eq,h0,h1]
 have h2:=g.hi
 simp only [F_d,check_eq,if_pos g,xX,decide_true,wY,vJ,hc]
 refine Ok.bind (cat_ok g t) fun s hs=>Ok.bind (Ok.foldI (all:=s) (fun pre W=>W.length≤pre.length∧∀x∈W,0≤x∧x≤a.Places - 1) s [] 0 _ rfl rfl ⟨by simp,by simp⟩ (fun pre x r W hw hW=>?_) fun W hW=>hW.2) fun W hW=>Ok.ret hW
 unfold F_54
 have hp:pre.length<s.length:=by rw [hw];simp
 refine Ok.bind (P:=fun _=>True) (Ok.of (bit_eq h0 h1) trivial) fun b _=>Ok.ite (fun _=>Ok.chk (room_smD (by simp;omega)) (Ok.ret ⟨by simp;omega,fun y hy=>?_⟩)) fun _=>Ok.ret ⟨by simp;omega,hW.2⟩
 simp only [wK,xF] at hy
 rcases hy with hy|rfl
 ·exact hW.2 y hy
 ·omega
def whr (a:GEstate) (c t:Int):List Int:=(F_d a c t).getD []
theorem where_eq {a:GEstate} (g:Good a) {c:Int} (h0:0≤c) (h1:c≤63) (t:Int):F_d a c t=some (whr a c t):=by
 obtain ⟨W,h,_⟩:=where_ok g h0 h1 t
 simp [whr,h]
theorem whr_mem {a:GEstate} (g:Good a) {c:Int} (h0:0≤c) (h1:c≤63) (t:Int):∀x∈whr a c t,0≤x∧x≤a.Places - 1:=(where_ok g h0 h1 t).val (where_eq g h0 h1 t)
theorem foldL_append {α σ:Type} (body:Int→α→σ→Option σ):∀(xs ys:List α) (k:Int) (s:σ),foldL body (xs++ys) k s=(foldL body xs k s).bind fun s'=>foldL body ys (k+xs.length) s'
 | [],ys,k,s=>by simp [foldL]
 | x::r,ys,k,s=>by
  simp only [wB,foldL,Option.bind_assoc]
  congr 1
  funext s'
  rw [foldL_append body r ys]
  congr 1
  funext s''
  congr 1
  simp;omega
theorem whr_push {a:GEstate} {x:GAccess} (g:Good a) (g':Good ⟨a.Places,a.Events++[x]⟩) (h5:x.Kind≠5) (h6:x.Kind≠6) (h7:x.Kind≠7) (c t:Int):whr ⟨a.Places,a.Events++[x]⟩ c t=whr a c t:=by
 have:F_a ⟨a.Places,a.Events++[x]⟩ t=F_a a t:=by
  simp only [F_a,foldL_append]
  congr 2
  have e:∀s,foldL (F_y t) [x] (0+(a.Events.length:Int)) s=some s:=fun s=>by
   simp only [foldL,F_y,happen_no h5 h6 h7,xX]
   cases decide (x.Time≤t)<;>rfl
  simp only [e]
  simp
 simp only [whr,F_d,check_eq,if_pos g,if_pos g',this]
open Classical in
noncomputable def see (d:GDirectory) (a:GEstate) (p t x:Int):Bool :=
 if p=-1 then (lkf x t a.Events 0 (0,false)).2 else decide (mayP d a p x t)
theorem plgo {d:GDirectory} {a:GEstate} (g:GoodD d) (h:Good a) (p t:Int) (xs:List Int) (hx:∀x∈xs,0≤x∧x≤a.Places - 1) (k:Int) :
  forL (F_59 d a p t) xs k ()=some (flO (findL (fun x=>if see d a p t x then some (x,true) else none) xs)):=by
 refine forL_find _ xs k fun k x hm=>?_
 simp only [F_59,linked_eq t (known_of h (hx x hm).1 (hx x hm).2),xX,grp,may_eq g h]
 by_cases c:p=-1
 ·simp only [c,decide_true,Bool.true_and,wY,vJ,see,if_true]
  cases (lkf x t a.Events 0 (0,false)).2<;>simp [flO]
 ·simp only [c,decide_false,Bool.false_and,wU,vJ,vL,see,if_false]
  by_cases q:mayP d a p x t<;>simp [q,flO]
theorem findL_find {α ρ:Type} (p:α→Bool) (f:α→ρ):∀xs:List α,findL (fun x=>if p x then some (f x) else none) xs=(xs.find? p).map f
 | []=>rfl
 | x::r=>by
  simp only [findL,List.find?_cons]
  cases h:p x with
  | true=>simp
  | false=>simp [findL_find p f r]
noncomputable def pla (d:GDirectory) (a:GEstate) (c p t:Int):Option Int:=(whr a c t).find? (see d a p t)
theorem place_eqX {d:GDirectory} {a:GEstate} (g:GoodD d) (h:Good a) {c:Int} (h0:0≤c) (h1:c≤63) (p t:Int):F_35 d a c p t=some (fst0 (pla d a c p t)):=by
 simp only [F_35,where_eq h h0 h1,xX,plgo g h p t _ (whr_mem h h0 h1 t),elim_flO,findL_find,pla]
 cases (whr a c t).find? (see d a p t)<;>rfl
noncomputable def sin (d:GDirectory) (a:GEstate) (c p:Int):Option Int:=(tms d a).find? fun t=>(pla d a c p t).isSome
theorem since_eq {d:GDirectory} {a:GEstate} (g:GoodD d) (h:Good a) {c:Int} (h0:0≤c) (h1:c≤63) (p:Int):F_36 d a c p=some (fst0 (sin d a c p)):=by
 simp only [F_36,etimes_eq g h,xX]
 rw [forL_find (fun t=>if (pla d a c p t).isSome then some (t,true) else none) (tms d a) 0 fun k t _=>by
  simp only [F_6e,place_eqX g h h0 h1,xX]
  cases pla d a c p t<;>simp [fst0,flO]]
 simp only [xX,elim_flO,findL_find,sin]
 cases (tms d a).find? (fun t=>(pla d a c p t).isSome)<;>rfl
theorem echeck_eq {d:GDirectory} {a:GEstate} (g:GoodD d) (h:Good a) {c:Int} (h0:0≤c) (h1:c≤63):F_2v d a c=some 0:=by
 simp [F_2v,F_1j,dcheck_eq,check_eq,g,h,F_8,among_eq,h0,h1]
theorem find_first {T:List Int} {q:Int→Bool} (hs:T.Pairwise fun x y=>x≤y) {t:Int} (ht:t∈T) (hq:q t=true):∃t',T.find? q=some t'∧t'≤t:=by
 induction T with
 | nil=>simp at ht
 | cons x r ih =>
  rw [List.pairwise_cons] at hs
  cases hx:q x with
  | true =>
   refine ⟨x,by simp [hx],?_⟩
   rcases wW.1 ht with rfl|ht
   ·omega
   ·exact hs.1 t ht
  | false =>
   rcases wW.1 ht with rfl|ht
   ·rw [hq] at hx;cases hx
   ·obtain ⟨t',h1,h2⟩:=ih hs.2 ht
    exact ⟨t',by simp [hx,h1],h2⟩
end Go.Ab
namespace Go.Ab
open Go.Proofs
theorem dir_ok {t:GTape} (h:TOK t):Ok (F_24 t) fun y=>GoodD y.1∧1≤y.1.Kinds.length∧y.1.Kinds.length≤7∧y.1.Events.length≤11∧(∀x∈y.1.Events,x.Time≤25)∧TOK y.2:=by
 unfold F_24
 refine Ok.bind (between_ok h (by omega) (by omega) (by omega)) fun y hy=>?_
 refine Ok.bind (Ok.loop (Q:=fun y:List Int×GTape=>1≤y.1.length∧y.1.length≤7∧(∀k∈y.1,1≤k∧k≤3)∧TOK y.2) (fun x=>0≤x.1∧(x.2.1.length:Int)+x.1≤7∧1≤x.2.1.length∧(∀k∈x.2.1,1≤k∧k≤3)∧TOK x.2.2) (fun x=>x.1.toNat) (fun x hx=>?_) _ ?_) fun r hr=>?_
 ·obtain ⟨k,out,t⟩:=x
  obtain ⟨h1,h2,h3,h3',h4⟩:=hx
  simp only at h1 h2 h3 h3' h4
  unfold F_5j
  refine Ok.ite (fun c=>?_) fun c=>?_
  ·have c:0<k:=by simpa using c
   refine Ok.bind (pick_ok h4 (by simp)) fun y hy=>?_
   refine Ok.chk (room_sm (by simp;omega)) (Ok.chk (in64_sm (by simp only;omega) (by simp only;omega)) (Ok.ret ?_))
   simp only [Fl.elim]
   have hm:=hy.1
   simp only [wW,List.not_mem_nil,or_false] at hm
   refine ⟨⟨by omega,by simp;omega,by simp,fun q hq=>?_,hy.2⟩,by omega⟩
   simp only [wK,xF] at hq
   rcases hq with hq|rfl
   ·exact h3' q hq
   ·omega
  ·refine Ok.ret ?_
   simp only [Fl.elim]
   exact ⟨h3,by omega,h3',h4⟩
 ·exact ⟨by show 0≤y.1;omega,by show ((1:Nat):Int)+y.1≤7;omega,by simp,by simp,hy.2.2⟩
 ·obtain ⟨r1,r2,r2',r3⟩:=hr
  refine Ok.bind (Ok.foldI (all:=r.1) (Q:=fun x:List Int=>x.length≤7∧∀k∈x,0≤k∧k<r.1.length∧r.1.getD k.toNat default=2) (fun pre x=>x.length≤pre.length∧∀k∈x,0≤k∧k<r.1.length∧r.1.getD k.toNat default=2) r.1 [] 0 [] rfl rfl (by simp) (fun pre x q s hw hs=>?_) fun s hs=>⟨by omega,hs.2⟩) fun gs hg=>?_
  ·unfold F_5k
   have hp:pre.length<r.1.length:=by rw [hw];simp
   have hx:r.1.getD pre.length default=x:=by rw [hw];simp
   refine Ok.ite (fun c=>Ok.chk (room_sm (by simp;omega)) (Ok.ret ⟨by simp;omega,fun k hk=>?_⟩)) fun c=>Ok.ret ⟨by simp;omega,hs.2⟩
   simp only [wK,xF] at hk
   rcases hk with hk|rfl
   ·exact hs.2 k hk
   ·refine ⟨by omega,by omega,?_⟩
    rw [xU,hx];simpa using c
  ·have gd0:GoodD ⟨r.1,[]⟩:=⟨by show r.1.length≤24;omega,by simp,r2',by simp,List.Pairwise.nil⟩
   refine Ok.ite (fun c=>Ok.ret ⟨gd0,r1,r2,by simp,by simp,r3⟩) fun c=>?_
   have c:¬(gs.length:Int)=0:=by simpa using c
   refine Ok.bind (next_ok r3 (by omega)) fun y hy=>Ok.bind (clock_ok hy.2.2 hy.1 (by omega)) fun z hz=>?_
   obtain ⟨z1,z2,z3,z4⟩:=hz
   refine Ok.bind (Ok.foldI (all:=z.1) (Q:=fun x:List GMember×GTape=>x.1.length≤z.1.length∧(∀e∈x.1,mok ⟨r.1,[]⟩ e∧e.Time∈z.1)∧x.1.Pairwise (fun a b=>a.Time≤b.Time)∧TOK x.2)
    (fun pre x=>x.1.length≤pre.length∧(∀e∈x.1,mok ⟨r.1,[]⟩ e∧e.Time∈pre)∧x.1.Pairwise (fun a b=>a.Time≤b.Time)∧TOK x.2) z.1 [] 0 _ rfl rfl ⟨by simp,by simp,List.Pairwise.nil,z4⟩ (fun pre x q s hw hs=>?_) fun s hs=>hs) fun s hs=>Ok.ret ?_
   ·unfold F_5l
    obtain ⟨s1,s2,s3,s4⟩:=hs
    have hc:=z3 x (by rw [hw];simp)
    have hpre:∀e∈pre,e≤x:=fun e he=>by rw [hw,List.pairwise_append] at z2;exact z2.2.2 e he x (by simp)
    have hp:pre.length≤30:=by have:=congrArg List.length hw;simp at this;omega
    refine Ok.bind (next_ok s4 (by omega)) fun a ha=>Ok.bind (next_ok ha.2.2 (by omega)) fun b hb=>Ok.chk (inb_iff.2 ⟨hb.1,hb.2.1⟩) ?_
    have hgm:gs.getD b.1.toNat default∈gs:=by
     have h1:b.1.toNat<gs.length:=by have:=hb.1;have:=hb.2.1;omega
     simp [zE,h1]
    obtain ⟨g1,g2,g3⟩:=hg.2 _ hgm
    refine Ok.jn (P:=fun j:GMember×GTape=>(j.1.Kind=1∨j.1.Kind=2)∧j.1.Time=x∧j.1.Principal=a.1∧j.1.Group=gs.getD b.1.toNat default∧TOK j.2) (Ok.bind (next_ok hb.2.2 (by omega)) fun d hd=>Ok.ite (fun _=>Ok.ret ⟨.inr rfl,rfl,rfl,rfl,hd.2.2⟩) fun _=>Ok.ret ⟨.inl rfl,rfl,rfl,rfl,hd.2.2⟩) fun j hj=>?_
    obtain ⟨j1,j2,j3,j4,j5⟩:=hj
    refine Ok.ite (fun c=>Ok.chk (room_sm (by simp;omega)) (Ok.ret ⟨by simp;omega,fun e he=>?_,?_,j5⟩)) fun c=>Ok.ret ⟨by simp;omega,fun e he=>⟨(s2 e he).1,by simp [(s2 e he).2]⟩,s3,j5⟩
    ·have c:¬j.1.Principal=j.1.Group:=by simpa using c
     simp only [wK,xF] at he ⊢
     rcases he with he|rfl
     ·exact ⟨(s2 e he).1,.inl (s2 e he).2⟩
     ·refine ⟨⟨j1,by omega,by omega,?_,?_,c⟩,.inr j2⟩
      ·show 0≤j.1.Principal∧j.1.Principal<r.1.length
       rw [j3];exact ⟨ha.1,ha.2.1⟩
      ·show 0≤j.1.Group∧j.1.Group<r.1.length∧r.1.getD j.1.Group.toNat default=2
       rw [j4];exact ⟨g1,g2,g3⟩
    ·rw [List.pairwise_append]
     refine ⟨s3,by simp,fun e he w hw2=>?_⟩
     simp only [xF] at hw2
     subst hw2
     rw [j2];exact hpre _ (s2 e he).2
   ·obtain ⟨s1,s2,s3,s4⟩:=hs
    have ht:∀e∈s.1,e.Time≤25:=fun e he=>by have:=z3 _ (s2 e he).2;omega
    exact ⟨⟨by show r.1.length≤24;omega,by show s.1.length≤120;omega,r2',fun e he=>(s2 e he).1,s3⟩,r1,r2,by show s.1.length≤11;omega,ht,s4⟩
end Go.Ab
namespace Go.Ab
open Go.Proofs
theorem lk_push {p t:Int} {E:List GAccess} {x:GAccess} (h4:x.Kind≠4) (h:(lkf p t E 0 (0,false)).2=true):(lkf p t (E++[x]) 0 (0,false)).2=true:=by
 rw [lkf_append]
 simp only [lkf,lst]
 split
 ·exact h
 ·split
  ·rfl
  ·exact h
theorem keys_push {p t:Int} {E:List GAccess} {x:GAccess} (h2:x.Kind≠2) {k:Int} (h:k∈keysf p t E):k∈keysf p t (E++[x]):=by
 rw [keysf_snoc]
 simp only [kst]
 split
 ·exact h
 ·split
  ·split
   ·exact h
   ·simp [h]
  ·exact h
theorem may_push {d:GDirectory} {P:Int} {E:List GAccess} {x:GAccess} (h2:x.Kind≠2) (h4:x.Kind≠4) {p pl t:Int} (h:mayP d ⟨P,E⟩ p pl t):mayP d ⟨P,E++[x]⟩ p pl t:=by
 refine ⟨h.1,?_⟩
 rcases h.2 with h|⟨k,h1,h3⟩
 ·exact .inl (lk_push h4 h)
 ·exact .inr ⟨k,keys_push h2 h1,h3⟩
open Classical in
theorem see_push {d:GDirectory} {P:Int} {E:List GAccess} {x:GAccess} (h2:x.Kind≠2) (h4:x.Kind≠4) {p pl t:Int} (h:see d ⟨P,E⟩ p t pl=true):see d ⟨P,E++[x]⟩ p t pl=true:=by
 simp only [see] at h ⊢
 by_cases c:p=-1
 ·rw [if_pos c] at h ⊢;exact lk_push h4 h
 ·rw [if_neg c] at h ⊢
  exact wS (may_push h2 h4 (of_decide_eq_true h))
theorem sin_push {d:GDirectory} {P:Int} {E:List GAccess} {x:GAccess} (h:Good ⟨P,E⟩) (h':Good ⟨P,E++[x]⟩) (hk:x.Kind=1∨x.Kind=3) {c p t:Int} (hs:sin d ⟨P,E⟩ c p=some t):∃t',sin d ⟨P,E++[x]⟩ c p=some t'∧t'≤t:=by
 refine find_first (tms_sorted _ _) ?_ ?_
 ·have:=List.mem_of_find?_eq_some hs
  rw [mem_tms] at this ⊢
  rcases this with ⟨y,hy,e⟩|h
  ·exact .inl ⟨y,by simp [hy],e⟩
  ·exact .inr h
 ·have hp:=List.find?_some hs
  simp only [pla,List.find?_isSome] at hp ⊢
  obtain ⟨pl,h1,h2⟩:=hp
  have e:=whr_push (a:=⟨P,E⟩) h h' (by omega) (by omega) (by omega) c t
  simp only at e
  rw [e]
  exact ⟨pl,h1,see_push (by omega) (by omega) h2⟩
end Go.Ab
namespace Go.Ab
open Go.Proofs
noncomputable def expo (d:GDirectory) (a:GEstate) (c:Int):Nat→Int→List GExposure
 | 0,_=>[]
 | n+1,k=>(match sin d a c k with|some t=>[⟨k,t⟩]|none=>[])++expo d a c n (k+1)
theorem expo_snoc (d:GDirectory) (a:GEstate) (c:Int):∀(n:Nat) (k:Int),expo d a c (n+1) k=expo d a c n k++(match sin d a c (k+n) with|some t=>[⟨k+n,t⟩]|none=>[])
 | 0,k=>by simp [expo]
 | n+1,k=>by
  rw [expo,expo_snoc d a c n (k+1),expo,List.append_assoc]
  have:k+1+(n:Int)=k+((n+1:Nat):Int):=by simp;omega
  rw [this]
theorem expo_len (d:GDirectory) (a:GEstate) (c:Int):∀(n:Nat) (k:Int),(expo d a c n k).length≤n
 | 0,k=>by simp [expo]
 | n+1,k=>by
  have:=expo_len d a c n (k+1)
  simp only [expo,xH]
  cases sin d a c k<;>simp<;>omega
theorem mem_expo {d:GDirectory} {a:GEstate} {c:Int} {x:GExposure}:∀{n:Nat} {k:Int},x∈expo d a c n k↔(k≤x.Principal∧x.Principal<k+n)∧sin d a c x.Principal=some x.Time
 | 0,k=>by simp [expo];omega
 | n + 1,k=>by
  rw [expo,wK,mem_expo (n:=n)]
  constructor
  ·rintro (h|⟨⟨h1,h2⟩,h3⟩)
   ·cases e:sin d a c k with
    | none=>rw [e] at h;simp at h
    | some t =>
     rw [e] at h
     simp only [xF] at h
     subst h
     exact ⟨⟨vI _,by simp;omega⟩,e⟩
   ·exact ⟨⟨by omega,by simp;omega⟩,h3⟩
  ·rintro ⟨⟨h1,h2⟩,h3⟩
   by_cases q:x.Principal=k
   ·left
    rw [q] at h3
    rw [h3]
    simp only [xF]
    cases x;simp only at q h3 ⊢;subst q;rfl
   ·right
    refine ⟨⟨by omega,by simp at h2;omega⟩,h3⟩
noncomputable def exps (d:GDirectory) (a:GEstate) (c:Int):List GExposure:=expo d a c (d.Kinds.length+1) (-1)
theorem All_eq {d:GDirectory} {a:GEstate} (g:GoodD d) (h:Good a) {c:Int} (h0:0≤c) (h1:c≤63):F_37 d a c=some (exps d a c,0):=by
 refine Ok.eq ?_
 have hk:=g.kl
 simp only [F_37,echeck_eq g h h0 h1,xX,decide_true,wY,vJ]
 refine Ok.bind (P:=fun r=>r=exps d a c) (Ok.loop (fun s:Int×List GExposure=>∃n:Nat,n≤d.Kinds.length+1∧s.1=(n:Int) - 1∧s.2=expo d a c n (-1)) (fun s=>((d.Kinds.length:Int) - s.1).toNat) (fun s hs=>?_) _ ⟨0,by omega,rfl,rfl⟩) fun r hr=>Ok.ret (by rw [hr])
 obtain ⟨p,l⟩:=s
 obtain ⟨n,hn,e1,e2⟩:=hs
 simp only at e1 e2
 subst e1 e2
 unfold F_6f
 refine Ok.ite (fun q=>?_) fun q=>?_
 ·have q:(n:Int) - 1<d.Kinds.length:=by simpa using q
  have hl:=expo_len d a c n (-1)
  refine Ok.jn (P:=fun j=>j=expo d a c (n+1) (-1)) (Ok.bind (Ok.of (since_eq g h h0 h1 _) rfl) fun y hy=>?_) fun j hj=>Ok.chk (in64_smD (by omega) (by omega)) (Ok.ret ⟨⟨n+1,by omega,by simp,hj⟩,?_⟩)
  ·subst hy
   rw [expo_snoc,show (-1:Int)+n=n - 1 by omega]
   cases sin d a c ((n:Int) - 1) with
   | none=>exact Ok.ret (by simp)
   | some t=>exact Ok.chk (room_smD (by simp;omega)) (Ok.ret rfl)
  ·show ((d.Kinds.length:Int) - ((n:Int) - 1+1)).toNat<((d.Kinds.length:Int) - ((n:Int) - 1)).toNat
   omega
 ·have q:¬(n:Int) - 1<d.Kinds.length:=by simpa using q
  have:n=d.Kinds.length+1:=by omega
  subst this
  exact Ok.ret rfl
end Go.Ab
namespace Go.Ab
open Go.Proofs
def tb (w:Int) (c:Nat):Bool:=(BitVec.ofInt 64 w).getLsbD c
theorem ofInt_toNat64 (b:BitVec 64):BitVec.ofInt 64 (IntKind.wrap .u64 (b.toNat:Int))=b:=by
 apply BitVec.eq_of_toNat_eq
 have h:=b.isLt
 simp only [IntKind.wrap,IntKind.bits,IntKind.signed,BitVec.toNat_ofInt]
 simp
 omega
theorem tb_or (x y:Int) (c:Nat):tb (bits .or .u64 x y) c=(tb x c||tb y c):=by
 simp only [tb,bits,ofInt_toNat64,IntKind.bits]
 exact BitVec.getLsbD_or
theorem tb_andNot (x y:Int) {c:Nat} (hc:c<64):tb (bits .andNot .u64 x y) c=(tb x c&&!tb y c):=by
 simp only [tb,bits,ofInt_toNat64,IntKind.bits]
 have:∀a b:BitVec 64,(a &&& ~~~b).getLsbD c=(a.getLsbD c&&!b.getLsbD c):=fun a b=>by rw [BitVec.getLsbD_and,BitVec.getLsbD_not];simp [hc]
 exact this _ _
theorem tb_and (x y:Int) (c:Nat):tb (bits .and .u64 x y) c=(tb x c&&tb y c):=by
 simp only [tb,bits,ofInt_toNat64,IntKind.bits]
 exact BitVec.getLsbD_and
def msk (c:Int):Int:=IntKind.wrap .u64 (1*2^c.toNat)
theorem msk_bv {c:Int} (h1:c≤63):BitVec.ofInt 64 (msk c)=BitVec.twoPow 64 c.toNat:=by
 have h:c.toNat<64:=by omega
 have hp:2^c.toNat<2^64:=Nat.pow_lt_pow_right (by omega) h
 have e:(1*2^c.toNat:Int)=((2^c.toNat:Nat):Int):=by simp
 apply BitVec.eq_of_toNat_eq
 rw [BitVec.toNat_twoPow,BitVec.toNat_ofInt]
 unfold msk
 rw [e]
 generalize 2^c.toNat=m at hp
 simp only [IntKind.wrap,IntKind.bits,IntKind.signed]
 simp
 omega
theorem tb_msk {c:Int} (h0:0≤c) (h1:c≤63) (i:Nat) (hi:i<64):tb (msk c) i=decide ((i:Int)=c):=by
 have h:c.toNat<64:=by omega
 simp only [tb,msk_bv h1,BitVec.getLsbD_twoPow]
 by_cases e:(i:Int)=c
 ·have:c.toNat=i:=by omega
  simp [e,this,hi]
 ·have:¬c.toNat=i:=by omega
  simp [e,this]
theorem and_msk {c:Int} (h0:0≤c) (h1:c≤63) (x:Int):decide (bits .and .u64 x (msk c)=0)=!tb x c.toNat:=by
 have h:c.toNat<64:=by omega
 have e1:bits .and .u64 x (msk c)=((BitVec.ofInt 64 x &&& BitVec.ofInt 64 (msk c)).toNat:Int):=by
  have h2:bits .and .u64 x (msk c)=IntKind.wrap .u64 ((BitVec.ofInt 64 x &&& BitVec.ofInt 64 (msk c)).toNat:Int):=rfl
  have:=(BitVec.ofInt 64 x &&& BitVec.ofInt 64 (msk c)).isLt
  rw [h2]
  generalize (BitVec.ofInt 64 x &&& BitVec.ofInt 64 (msk c)).toNat=n at this
  simp only [IntKind.wrap,IntKind.bits,IntKind.signed]
  simp
  omega
 have e2:(bits .and .u64 x (msk c)=0)↔BitVec.ofInt 64 x &&& BitVec.ofInt 64 (msk c)=0#64:=by
  rw [e1]
  constructor
  ·intro h
   apply BitVec.eq_of_toNat_eq
   simp only [BitVec.toNat_ofNat]
   have:(BitVec.ofInt 64 x &&& BitVec.ofInt 64 (msk c)).toNat=0:=by omega
   rw [this]
  ·intro h;rw [h];rfl
 cases ht:tb x c.toNat with
 | true =>
  refine wF fun h'=>?_
  have h2:=e2.1 h'
  have h3:tb (bits .and .u64 x (msk c)) c.toNat=false:=by rw [h'];simp [tb]
  rw [tb_and,ht,tb_msk h0 h1 _ h] at h3
  simp at h3
  omega
 | false =>
  refine wS (e2.2 ?_)
  rw [msk_bv h1]
  apply BitVec.eq_of_getLsbD_eq
  intro i hi
  rw [BitVec.getLsbD_and,BitVec.getLsbD_twoPow]
  by_cases q:c.toNat=i
  ·subst q
   have:(BitVec.ofInt 64 x).getLsbD c.toNat=false:=ht
   simp [this]
  ·simp [q]
def upd (s:Int→Bool) (p:Int) (b:Bool):Int→Bool:=fun i=>if i=p then b else s i
def cst (c:Int) (x:GAccess) (s:Int→Bool):Int→Bool :=
 if x.Kind=5 then upd s x.Place (s x.Place||decide (x.Content=c))
 else if x.Kind=6 then upd s x.Place (s x.Place&&!decide (x.Content=c))
 else if x.Kind=7 then upd s x.Place (s x.Place||s x.From)
 else s
def cfo (c t:Int) (E:List GAccess) (s:Int→Bool):Int→Bool:=E.foldl (fun s x=>if x.Time≤t then cst c x s else s) s
def hld (a:GEstate) (c t:Int):Int→Bool:=cfo c t a.Events fun _=>false
def wof (c:Int) (l:List Int) (s:Int→Bool):Prop:=∀i:Int,0≤i→i<l.length→tb (l.getD i.toNat default) c.toNat=s i
theorem wof_set {c:Int} {l:List Int} {s:Int→Bool} (h:wof c l s) {p w:Int} {b:Bool} (hp:0≤p) (hl:p<l.length) (hb:tb w c.toNat=b):wof c (l.set p.toNat w) (upd s p b):=by
 intro i h0 h1
 rw [List.length_set] at h1
 simp only [upd,zE,xP]
 by_cases e:i=p
 ·subst e
  simp [show i.toNat<l.length by omega,hb]
 ·rw [if_neg (by omega),if_neg e]
  have:=h i h0 h1
  rwa [zE] at this
theorem happen_cst {P c:Int} {l:List Int} {s:Int→Bool} {x:GAccess} (h0:0≤c) (h1:c≤63) (h:xok P x) (hl:(l.length:Int)=P) (hw:wof c l s):Ok (F_5 l x) fun l'=>l'.length=l.length∧wof c l' (cst c x s):=by
 obtain ⟨_,_,h3,h4,h5⟩:=h
 have hp:inb x.Place l.length=true:=inb_iff.2 ⟨h3,by omega⟩
 have hc:c.toNat<64:=by omega
 have hP:=hw x.Place h3 (by omega)
 unfold F_5
 refine Ok.ite (fun q=>?_) fun q=>Ok.ite (fun q2=>?_) fun q2=>Ok.ite (fun q3=>?_) fun q3=>?_
 ·have q:x.Kind=5:=by simpa using q
  refine Ok.chk hp (Ok.bind (Ok.of (bit_eq (by omega) (by omega)) rfl) fun b hb=>Ok.chk hp (Ok.ret ⟨by simp,?_⟩))
  simp only [cst,if_pos q]
  refine wof_set hw h3 (by omega) ?_
  rw [tb_or,hP,←hb]
  congr 1
  rw [show IntKind.wrap .u64 (1*2^x.Content.toNat)=msk x.Content from rfl,tb_msk (by omega) (by omega) _ hc]
  exact decide_eq_decide.2 (by omega)
 ·have q:¬x.Kind=5:=by simpa using q
  have q2:x.Kind=6:=by simpa using q2
  refine Ok.chk hp (Ok.bind (Ok.of (bit_eq (by omega) (by omega)) rfl) fun b hb=>Ok.chk hp (Ok.ret ⟨by simp,?_⟩))
  simp only [cst,if_neg q,if_pos q2]
  refine wof_set hw h3 (by omega) ?_
  rw [tb_andNot _ _ hc,hP,←hb]
  congr 2
  rw [show IntKind.wrap .u64 (1*2^x.Content.toNat)=msk x.Content from rfl,tb_msk (by omega) (by omega) _ hc]
  exact decide_eq_decide.2 (by omega)
 ·have q:¬x.Kind=5:=by simpa using q
  have q2:¬x.Kind=6:=by simpa using q2
  have q3:x.Kind=7:=by simpa using q3
  have hf:inb x.From l.length=true:=inb_iff.2 ⟨by omega,by omega⟩
  refine Ok.chk hp (Ok.chk hf (Ok.chk hp (Ok.ret ⟨by simp,?_⟩)))
  simp only [cst,if_neg q,if_neg q2,if_pos q3]
  refine wof_set hw h3 (by omega) ?_
  rw [tb_or,hP,hw x.From (by omega) (by omega)]
 ·have q:¬x.Kind=5:=by simpa using q
  have q2:¬x.Kind=6:=by simpa using q2
  have q3:¬x.Kind=7:=by simpa using q3
  simp only [cst,if_neg q,if_neg q2,if_neg q3]
  exact Ok.ret ⟨rfl,hw⟩
theorem cat_hld {a:GEstate} (g:Good a) {c:Int} (h0:0≤c) (h1:c≤63) (t:Int):Ok (F_a a t) fun l=>(l.length:Int)=a.Places∧wof c l (hld a c t):=by
 have h2:=g.lo
 have h3:=g.hi
 unfold F_a
 refine Ok.chk (roomI_iff.2 ⟨by omega,by omega,by omega⟩) (Ok.bind (Ok.foldI (all:=a.Events) (fun pre l=>(l.length:Int)=a.Places∧wof c l (cfo c t pre fun _=>false)) a.Events [] 0 _ rfl rfl ⟨by simp;omega,fun i hi hl=>?_⟩ (fun pre x r s hw hs=>?_) fun s hs=>hs) fun s hs=>Ok.ret hs)
 ·simp only [cfo,List.foldl_nil,List.length_replicate] at hl ⊢
  rw [zE,List.getElem?_replicate,if_pos (by omega)]
  simp [tb]
 ·unfold F_y
  have hx:=g.ev x (by rw [hw];simp)
  refine Ok.ite (fun q=>Ok.bind (happen_cst h0 h1 hx hs.1 hs.2) fun y hy=>Ok.ret ⟨by rw [hy.1];exact hs.1,?_⟩) fun q=>Ok.ret ⟨hs.1,?_⟩
  ·have q:x.Time≤t:=by simpa using q
   simp only [cfo,List.foldl_append,wN,List.foldl_nil,if_pos q]
   exact hy.2
  ·have q:¬x.Time≤t:=by simpa using q
   simp only [cfo,List.foldl_append,wN,List.foldl_nil,if_neg q]
   exact hs.2
theorem whr_eq {a:GEstate} (g:Good a) {c:Int} (h0:0≤c) (h1:c≤63) (t:Int):whr a c t=((List.range a.Places.toNat).filter fun i:Nat=>hld a c t i).map fun i:Nat=>(i:Int):=by
 have hc:F_8 c=some true:=by simp [F_8,among_eq,h0,h1]
 have h2:=g.hi
 have h3:=g.lo
 refine Ok.val (Q:=fun W=>W=((List.range a.Places.toNat).filter fun i:Nat=>hld a c t i).map fun i:Nat=>(i:Int)) ?_ (where_eq g h0 h1 t)
 simp only [F_d,check_eq,if_pos g,xX,decide_true,wY,vJ,hc]
 refine Ok.bind (cat_hld g h0 h1 t) fun s hs=>Ok.bind (Ok.foldI (all:=s) (fun pre W=>W=((List.range pre.length).filter fun i:Nat=>hld a c t i).map fun i:Nat=>(i:Int)) s [] 0 _ rfl rfl rfl (fun pre x r W hw hW=>?_) fun W hW=>by rw [hW,show s.length=a.Places.toNat by omega]) fun W hW=>Ok.ret hW
 subst hW
 unfold F_54
 have hp:pre.length<s.length:=by rw [hw];simp
 have hx:=hs.2 (pre.length:Int) (by omega) (by omega)
 rw [xU,show s.getD pre.length default=x by rw [hw];simp] at hx
 have hlen:(((List.range pre.length).filter fun i:Nat=>hld a c t i).map fun i:Nat=>(i:Int)).length≤pre.length:=by
  rw [wM];exact w8 (List.length_filter_le _ _) (by simp)
 refine Ok.bind (Ok.of (bit_eq h0 h1) rfl) fun b hb=>?_
 rw [←hb,show IntKind.wrap .u64 (1*2^c.toNat)=msk c from rfl,and_msk h0 h1,hx,Bool.not_not]
 simp only [xH,zV,List.range_succ,List.filter_append,List.map_append]
 cases q:hld a c t (pre.length:Int) with
 | false=>simp only [vJ];exact Ok.ret (by simp [q])
 | true =>
  simp only [vL]
  exact Ok.chk (room_smD (by simp only [wM] at hlen ⊢;omega)) (Ok.ret (by simp [q]))
theorem mem_whr {a:GEstate} (g:Good a) {c:Int} (h0:0≤c) (h1:c≤63) {t x:Int}:x∈whr a c t↔(0≤x∧x≤a.Places - 1)∧hld a c t x=true:=by
 have h3:=g.lo
 rw [whr_eq g h0 h1]
 simp only [vB,wJ,List.mem_range]
 constructor
 ·rintro ⟨i,⟨h1,h2⟩,rfl⟩
  exact ⟨by omega,h2⟩
 ·rintro ⟨⟨h1,h2⟩,h3⟩
  refine ⟨x.toNat,⟨by omega,?_⟩,by omega⟩
  rwa [show ((x.toNat:Nat):Int)=x by omega]
end Go.Ab
namespace Go.Ab
open Go.Proofs
def lvl (s:Int):Int:=(if 1≤s then 1 else 0)+(if 100≤s then 1 else 0)+(if 1000≤s then 1 else 0)+(if 10000≤s then 1 else 0)
theorem level_eq (s:Int):F_3l s=some (lvl s):=by
 have h0:in64 1=true:=in64_sm (by omega) (by omega)
 have h1:in64 2=true:=in64_sm (by omega) (by omega)
 have h2:in64 3=true:=in64_sm (by omega) (by omega)
 have h3:in64 4=true:=in64_sm (by omega) (by omega)
 unfold lvl
 simp only [F_3l,foldL,F_4k]
 by_cases c1:1≤s
 ·by_cases c2:100≤s
  ·by_cases c3:1000≤s
   ·by_cases c4:10000≤s
    ·simp [c1,c2,c3,c4,chk,h0,h1,h2,h3]
    ·simp [c1,c2,c3,c4,chk,h0,h1,h2,h3]
   ·have c4:¬10000≤s:=by omega
    simp [c1,c2,c3,c4,chk,h0,h1,h2,h3]
  ·have c3:¬1000≤s:=by omega
   have c4:¬10000≤s:=by omega
   simp [c1,c2,c3,c4,chk,h0,h1,h2,h3]
 ·have c2:¬100≤s:=by omega
  have c3:¬1000≤s:=by omega
  have c4:¬10000≤s:=by omega
  simp [c1,c2,c3,c4]
theorem lvl_mono {a b:Int} (h:a≤b):lvl a≤lvl b:=by
 unfold lvl
 repeat' split
 all_goals omega
theorem worst_ok (l:List GSeverity) (hl:l.length≤100):Ok (F_3n l) fun r=>r.2=decide (0<(l.length:Int))∧(0<l.length→0≤r.1∧r.1<l.length∧(∀i:Nat,i<l.length→(l.getD i default).Score≤(l.getD r.1.toNat default).Score)∧∀i:Nat,(i:Int)<r.1→(l.getD i default).Score<(l.getD r.1.toNat default).Score):=by
 unfold F_3n
 refine Ok.bind (Ok.foldI (all:=l) (Q:=fun b:Int=>0<l.length→0≤b∧b<l.length∧(∀i:Nat,i<l.length→(l.getD i default).Score≤(l.getD b.toNat default).Score)∧∀i:Nat,(i:Int)<b→(l.getD i default).Score<(l.getD b.toNat default).Score)
  (fun pre (b:Int)=>0≤b∧(b<pre.length∨pre=[]∧b=0)∧(∀i:Nat,i<pre.length→(l.getD i default).Score≤(l.getD b.toNat default).Score)∧∀i:Nat,(i:Int)<b→(l.getD i default).Score<(l.getD b.toNat default).Score) l [] 0 0 rfl rfl ⟨by omega,.inr ⟨rfl,rfl⟩,by simp,fun i hi=>by omega⟩ (fun pre x r s hw hs=>?_) fun s hs hp=>?_) fun b hb=>Ok.ret ⟨rfl,hb⟩
 ·obtain ⟨h1,h2,h3,h4⟩:=hs
  have hlen:pre.length<l.length:=by have:=congrArg List.length hw;simp at this;omega
  have hx:l.getD pre.length default=x:=by rw [hw];simp
  have hsl:s<l.length:=by
   rcases h2 with h2|⟨h2,h5⟩
   ·omega
   ·omega
  unfold F_6w
  refine Ok.chk (inb_iff.2 ⟨h1,hsl⟩) (Ok.ite (fun c=>Ok.ret ?_) fun c=>Ok.ret ?_)
  ·have c:(l.getD s.toNat default).Score<x.Score:=by simpa using c
   refine ⟨by omega,.inl (by simp;omega),fun i hi=>?_,fun i hi=>?_⟩
   ·simp only [xH,zV] at hi
    simp only [xU,hx]
    by_cases e:i=pre.length
    ·rw [e,hx];exact vI _
    ·have:=h3 i (by omega);omega
   ·simp only [xU,hx]
    have:=h3 i (by omega);omega
  ·have c:¬(l.getD s.toNat default).Score<x.Score:=by simpa using c
   refine ⟨h1,.inl ?_,fun i hi=>?_,h4⟩
   ·simp only [xH,zV]
    rcases h2 with h2|⟨h2,h5⟩
    ·omega
    ·omega
   ·simp only [xH,zV] at hi
    by_cases e:i=pre.length
    ·rw [e,hx];omega
    ·exact h3 i (by omega)
 ·obtain ⟨h1,h2,h3,h4⟩:=hs
  refine ⟨h1,?_,h3,h4⟩
  rcases h2 with h2|⟨h2,h5⟩
  ·exact h2
  ·rw [h2] at hp;simp at hp
end Go.Ab
namespace Go.Ab
open Go.Proofs
def gOK (x:GRights) (g:GGrant):Prop:=(0≤g.Credential∧g.Credential≤x.Credentials - 1)∧(0≤g.Resource∧g.Resource≤x.Resources - 1)∧1≤g.Right∧g.Right≤3
def sOK (x:GRights) (s:GStore):Prop:=(0≤s.Credential∧s.Credential≤x.Credentials - 1)∧0≤s.Resource∧s.Resource≤x.Resources - 1
def mOK (x:GRights) (m:GMint):Prop:=(0≤m.From∧m.From≤x.Credentials - 1)∧0≤m.To∧m.To≤x.Credentials - 1
structure GoodR (x:GRights):Prop where
 c0:0≤x.Credentials
 c1:x.Credentials≤24
 r0:0≤x.Resources
 r1:x.Resources≤24
 gl:x.Grants.length≤100
 sl:x.Stores.length≤100
 ml:x.Mints.length≤100
 gr:∀g∈x.Grants,gOK x g
 st:∀s∈x.Stores,sOK x s
 mi:∀m∈x.Mints,mOK x m
theorem ramong_eq (n lo hi:Int):F_6 n lo hi=some (decide (lo≤n∧n≤hi)):=by simp [F_6,grp]
theorem cred_eq (x:GRights) (c:Int) (h1:0≤x.Credentials) (h2:x.Credentials≤24):F_9 x c=some (decide (0≤c∧c≤x.Credentials - 1)):=by
 simp [F_9,ramong_eq,chk_true (in64_sm (n:=x.Credentials - 1) (by omega) (by omega))]
theorem res_eq (x:GRights) (r:Int) (h1:0≤x.Resources) (h2:x.Resources≤24):F_1s x r=some (decide (0≤r∧r≤x.Resources - 1)):=by
 simp [F_1s,ramong_eq,chk_true (in64_sm (n:=x.Resources - 1) (by omega) (by omega))]
theorem find_neg {α:Type} {body:Int→α→Unit→Option (Fl Unit Int)} (p:α→Prop) [DecidablePred p] (h:∀k x,body k x ()=some (if p x then .ex k else .nx ())):∀(xs:List α) (k:Int),0≤k →
  ∃o,forL body xs k ()=some o∧((∃x∈xs,p x)→∃r,o=.ex r∧0≤r)∧((∀x∈xs,¬p x)→o=.nx ())
 | [],k,hk=>⟨.nx (),rfl,fun ⟨x,hx,_⟩=>by simp at hx,fun _=>rfl⟩
 | x::r,k,hk=>by
  simp only [forL,h]
  by_cases c:p x
  ·simp only [if_pos c,xX,Fl_ex]
   exact ⟨_,rfl,fun _=>⟨k,rfl,hk⟩,fun hn=>absurd c (hn x (by simp))⟩
  ·simp only [if_neg c,xX,Fl_nx]
   obtain ⟨o,h1,h2,h3⟩:=find_neg p h r (k+1) (by omega)
   refine ⟨o,h1,fun ⟨y,hy,hp⟩=>?_,fun hn=>h3 fun y hy=>hn y (by simp [hy])⟩
   rcases wW.1 hy with rfl|hy
   ·exact absurd hp c
   ·exact h2 ⟨y,hy,hp⟩
theorem contains_of {α:Type} {body:Int→α→Unit→Option (Fl Unit Int)} (p:α→Prop) [DecidablePred p] (xs:List α) [Decidable (∃x∈xs,p x)] (h:∀k x,body k x ()=some (if p x then .ex k else .nx ())) :
  (((forL body xs 0 ()).bind fun o=>o.elim (fun _=>some (-1)) fun r=>some r).bind fun y=>some (decide (0≤y)))=some (decide (∃x∈xs,p x)):=by
 obtain ⟨o,h1,h2,h3⟩:=find_neg p h xs 0 (vI 0)
 rw [h1]
 by_cases c:∃x∈xs,p x
 ·obtain ⟨r,rfl,hr⟩:=h2 c
  simp only [xX,Fl_ex,wS hr,wS c]
 ·have:=h3 fun x hx hp=>c ⟨x,hx,hp⟩
  subst this
  simp only [xX,Fl_nx,wF c]
  rfl
open Classical in
theorem rcheck_eq (x:GRights):F_l x=some (if GoodR x then 0 else 32):=by
 simp only [F_l,ramong_eq,xX,grp]
 by_cases h1:0≤x.Credentials∧x.Credentials≤24
 ·by_cases h2:0≤x.Resources∧x.Resources≤24
  ·by_cases h3:x.Grants.length≤100∧x.Stores.length≤100∧x.Mints.length≤100
   ·have e3:(decide (100<(x.Grants.length:Int))||decide (100<(x.Stores.length:Int))||decide (100<(x.Mints.length:Int)))=false:=by
     simp only [xB,zK];omega
    have g1:F_3a x.Grants x=some (decide (∃g∈x.Grants,¬gOK x g)):=by
     refine contains_of (fun g=>¬gOK x g) x.Grants fun k g=>?_
     simp only [F_6j,F_j,cred_eq x _ h1.1 h1.2,res_eq x _ h2.1 h2.2,ramong_eq,xX,jn]
     unfold gOK
     by_cases c1:0≤g.Credential∧g.Credential≤x.Credentials - 1<;>by_cases c2:0≤g.Resource∧g.Resource≤x.Resources - 1<;>by_cases c3:1≤g.Right∧g.Right≤3<;>simp only [c1,c2,c3,decide_true,decide_false,wY,wU,vL,vJ,xX,and_self,and_true,true_and,and_false,false_and,not_true_eq_false,not_false_eq_true,if_true,if_false]
    have g2:F_3b x.Stores x=some (decide (∃g∈x.Stores,¬sOK x g)):=by
     refine contains_of (fun g=>¬sOK x g) x.Stores fun k g=>?_
     simp only [F_6k,F_k,cred_eq x _ h1.1 h1.2,res_eq x _ h2.1 h2.2,ramong_eq,xX,jn]
     unfold sOK
     by_cases c1:0≤g.Credential∧g.Credential≤x.Credentials - 1<;>by_cases c2:0≤g.Resource∧g.Resource≤x.Resources - 1<;>simp only [c1,c2,decide_true,decide_false,wY,wU,vL,vJ,xX,and_self,and_true,true_and,and_false,false_and,not_true_eq_false,not_false_eq_true,if_true,if_false]
    have g3:F_3c x.Mints x=some (decide (∃g∈x.Mints,¬mOK x g)):=by
     refine contains_of (fun g=>¬mOK x g) x.Mints fun k g=>?_
     simp only [F_6l,F_4c,cred_eq x _ h1.1 h1.2,xX,jn]
     unfold mOK
     by_cases c1:0≤g.From∧g.From≤x.Credentials - 1<;>by_cases c2:0≤g.To∧g.To≤x.Credentials - 1<;>simp only [c1,c2,decide_true,decide_false,wY,wU,vL,vJ,xX,and_self,and_true,true_and,and_false,false_and,not_true_eq_false,not_false_eq_true,if_true,if_false]
    simp only [h1,h2,decide_true,wY,vJ,e3,g1,g2,g3,xX,and_self]
    by_cases q1:∃g∈x.Grants,¬gOK x g
    ·have:¬GoodR x:=fun h=>by obtain ⟨g,hg,hn⟩:=q1;exact hn (h.gr g hg)
     simp only [wS q1,vL,if_neg this]
    ·by_cases q2:∃g∈x.Stores,¬sOK x g
     ·have:¬GoodR x:=fun h=>by obtain ⟨g,hg,hn⟩:=q2;exact hn (h.st g hg)
      simp only [wF q1,wS q2,vL,vJ,if_neg this]
     ·by_cases q3:∃g∈x.Mints,¬mOK x g
      ·have:¬GoodR x:=fun h=>by obtain ⟨g,hg,hn⟩:=q3;exact hn (h.mi g hg)
       simp only [wF q1,wF q2,wS q3,vL,vJ,if_neg this]
      ·have:GoodR x:=⟨h1.1,h1.2,h2.1,h2.2,h3.1,h3.2.1,h3.2.2,fun g hg=>Classical.byContradiction fun hn=>q1 ⟨g,hg,hn⟩,fun g hg=>Classical.byContradiction fun hn=>q2 ⟨g,hg,hn⟩,fun g hg=>Classical.byContradiction fun hn=>q3 ⟨g,hg,hn⟩⟩
       simp only [wF q1,wF q2,wF q3,vJ,if_pos this]
   ·have e3:(decide (100<(x.Grants.length:Int))||decide (100<(x.Stores.length:Int))||decide (100<(x.Mints.length:Int)))=true:=by
     simp only [wQ,xM];omega
    have:¬GoodR x:=fun h=>h3 ⟨h.gl,h.sl,h.ml⟩
    simp only [h1,h2,decide_true,wY,vJ,e3,vL,if_neg this,and_self]
  ·have:¬GoodR x:=fun h=>h2 ⟨h.r0,h.r1⟩
   simp only [h1,h2,decide_true,decide_false,wY,wU,vJ,vL,if_neg this,and_self]
 ·have:¬GoodR x:=fun h=>h1 ⟨h.c0,h.c1⟩
  simp only [h1,decide_false,wU,vL,if_neg this]
def leads (x:GRights) (a b:Int):Prop:=(∃m∈x.Mints,m.From=a∧m.To=b)∨∃g∈x.Grants,∃s∈x.Stores,g.Credential=a∧s.Resource=g.Resource∧s.Credential=b
def lnkTo (x:GRights) (c:Int) (l:GLink) (b:Int):Prop:=F_m x c l=some (b,true)∧leads x c b
theorem follow_mint {x:GRights} (g:GoodR x) {k:Nat} (hk:k<x.Mints.length) {c:Int} (hf:(x.Mints.getD k default).From=c):lnkTo x c (GLink.mk 2 (-1) (-1) k) (x.Mints.getD k default).To:=by
 have hm:=g.ml
 have i1:in64 ((x.Mints.length:Int) - 1)=true:=in64_sm (by omega) (by omega)
 have i2:inb (k:Int) x.Mints.length=true:=inb_iff.2 ⟨by omega,by omega⟩
 have i3:decide (0≤(k:Int)∧(k:Int)≤(x.Mints.length:Int) - 1)=true:=wS (by omega)
 have e:x.Mints.getD k default=x.Mints[k]:=by rw [zE,zJ hk];rfl
 refine ⟨?_,.inl ⟨_,by rw [e];exact wA hk,hf,rfl⟩⟩
 simp only [F_m,decide_true,w4,grp,vL,chk_true i1,ramong_eq,i3,xX,jn,chk_true i2,xU,hf]
theorem follow_store {x:GRights} (g:GoodR x) {i k:Nat} (hi:i<x.Grants.length) (hk:k<x.Stores.length) {c:Int} (hf:(x.Grants.getD i default).Credential=c) (hr:(x.Stores.getD k default).Resource=(x.Grants.getD i default).Resource) :
  lnkTo x c (GLink.mk 1 i k (-1)) (x.Stores.getD k default).Credential:=by
 have hm:=g.gl
 have hm2:=g.sl
 have i1:in64 ((x.Grants.length:Int) - 1)=true:=in64_sm (by omega) (by omega)
 have j1:in64 ((x.Stores.length:Int) - 1)=true:=in64_sm (by omega) (by omega)
 have i2:inb (i:Int) x.Grants.length=true:=inb_iff.2 ⟨by omega,by omega⟩
 have j2:inb (k:Int) x.Stores.length=true:=inb_iff.2 ⟨by omega,by omega⟩
 have i3:decide (0≤(i:Int)∧(i:Int)≤(x.Grants.length:Int) - 1)=true:=wS (by omega)
 have j3:decide (0≤(k:Int)∧(k:Int)≤(x.Stores.length:Int) - 1)=true:=wS (by omega)
 have e1:x.Grants.getD i default=x.Grants[i]:=by rw [zE,zJ hi];rfl
 have e2:x.Stores.getD k default=x.Stores[k]:=by rw [zE,zJ hk];rfl
 refine ⟨?_,.inr ⟨_,by rw [e1];exact wA hi,_,by rw [e2];exact wA hk,hf,hr,rfl⟩⟩
 have n1:decide ((1:Int)=2)=false:=rfl
 simp only [F_m,n1,Bool.false_and,grp,jn,vJ,xX,decide_true,vL,chk_true i1,chk_true j1,ramong_eq,i3,j3,chk_true i2,chk_true j2,xU,hf,hr]
theorem links_ok {x:GRights} (g:GoodR x) (c:Int):Ok (F_10 x c) fun ls=>ls.length≤10100∧(∀l∈ls,∃b,lnkTo x c l b)∧∀b,leads x c b→∃l∈ls,lnkTo x c l b:=by
 have hm:=g.ml;have hg:=g.gl;have hs:=g.sl
 unfold F_10
 refine Ok.bind (Ok.foldI (all:=x.Mints) (Q:=fun ls=>ls.length≤100∧(∀l∈ls,∃b,lnkTo x c l b)∧∀m∈x.Mints,m.From=c→∃l∈ls,lnkTo x c l m.To)
  (fun pre ls=>ls.length≤pre.length∧(∀l∈ls,∃b,lnkTo x c l b)∧∀m∈pre,m.From=c→∃l∈ls,lnkTo x c l m.To) x.Mints [] 0 [] rfl rfl ⟨by simp,by simp,by simp⟩ (fun pre m r s hw hs=>?_) fun s hs=>⟨by omega,hs.2⟩) fun ls1 h1=>?_
 ·obtain ⟨s1,s2,s3⟩:=hs
  have hlen:pre.length<x.Mints.length:=by have:=congrArg List.length hw;simp at this;omega
  have hx:x.Mints.getD pre.length default=m:=by rw [hw];simp
  unfold F_6p
  refine Ok.ite (fun cc=>?_) fun cc=>Ok.ret ⟨by simp;omega,s2,fun m' hm' hf=>?_⟩
  ·have cc:m.From=c:=by simpa using cc
   have hl:=follow_mint g hlen (c:=c) (by rw [hx];exact cc)
   rw [hx] at hl
   refine Ok.chk (room_sm (by simp;omega)) (Ok.ret ⟨by simp;omega,fun l hl'=>?_,fun m' hm' hf=>?_⟩)
   ·simp only [wK,xF] at hl'
    rcases hl' with hl'|rfl
    ·exact s2 l hl'
    ·exact ⟨_,hl⟩
   ·simp only [wK,xF] at hm'
    rcases hm' with hm'|rfl
    ·obtain ⟨l,q1,q2⟩:=s3 m' hm' hf
     exact ⟨l,by simp [q1],q2⟩
    ·exact ⟨_,by simp,hl⟩
  ·simp only [wK,xF] at hm'
   rcases hm' with hm'|rfl
   ·exact s3 m' hm' hf
   ·simp [hf] at cc
 ·obtain ⟨a1,a2,a3⟩:=h1
  refine Ok.bind (Ok.foldI (all:=x.Grants) (Q:=fun ls=>ls.length≤10100∧(∀l∈ls,∃b,lnkTo x c l b)∧(∀l∈ls1,l∈ls)∧∀y∈x.Grants,∀z∈x.Stores,y.Credential=c→z.Resource=y.Resource→∃l∈ls,lnkTo x c l z.Credential)
   (fun pre ls=>ls.length≤100+pre.length*100∧(∀l∈ls,∃b,lnkTo x c l b)∧(∀l∈ls1,l∈ls)∧∀y∈pre,∀z∈x.Stores,y.Credential=c→z.Resource=y.Resource→∃l∈ls,lnkTo x c l z.Credential) x.Grants [] 0 ls1 rfl rfl ⟨by simp;omega,a2,fun _ h=>h,by simp⟩ (fun pre y r s hw hs=>?_) fun s hs=>⟨by omega,hs.2⟩) fun ls h=>Ok.ret ⟨h.1,h.2.1,fun b hb=>?_⟩
  ·obtain ⟨s1,s2,s3,s4⟩:=hs
   have hlen:pre.length<x.Grants.length:=by have:=congrArg List.length hw;simp at this;omega
   have hx:x.Grants.getD pre.length default=y:=by rw [hw];simp
   unfold F_6r
   refine Ok.bind (Ok.foldI (all:=x.Stores) (Q:=fun ls=>ls.length≤s.length+100∧(∀l∈ls,∃b,lnkTo x c l b)∧(∀l∈s,l∈ls)∧∀z∈x.Stores,y.Credential=c→z.Resource=y.Resource→∃l∈ls,lnkTo x c l z.Credential)
    (fun pre2 ls=>ls.length≤s.length+pre2.length∧(∀l∈ls,∃b,lnkTo x c l b)∧(∀l∈s,l∈ls)∧∀z∈pre2,y.Credential=c→z.Resource=y.Resource→∃l∈ls,lnkTo x c l z.Credential) x.Stores [] 0 s rfl rfl ⟨by simp,s2,fun _ h=>h,by simp⟩ (fun pre2 z r2 s' hw2 hs2=>?_) fun s' hs'=>⟨by omega,hs'.2⟩) fun ls2 h2=>Ok.ret ?_
   ·obtain ⟨t1,t2,t3,t4⟩:=hs2
    have hlen2:pre2.length<x.Stores.length:=by have:=congrArg List.length hw2;simp at this;omega
    have hz:x.Stores.getD pre2.length default=z:=by rw [hw2];simp
    unfold F_6q
    refine Ok.grp (Ok.ite (fun cc=>?_) fun cc=>Ok.ret ⟨by simp;omega,t2,t3,fun z' hz' hf hr=>?_⟩)
    ·simp only [wD,xM] at cc
     have hl:=follow_store g hlen hlen2 (c:=c) (by rw [hx];exact cc.1) (by rw [hx,hz];exact cc.2)
     rw [hz] at hl
     refine Ok.chk (room_sm (by simp;omega)) (Ok.ret ⟨by simp;omega,fun l hl'=>?_,fun l hl'=>by simp [t3 l hl'],fun z' hz' hf hr=>?_⟩)
     ·simp only [wK,xF] at hl'
      rcases hl' with hl'|rfl
      ·exact t2 l hl'
      ·exact ⟨_,hl⟩
     ·simp only [wK,xF] at hz'
      rcases hz' with hz'|rfl
      ·obtain ⟨l,q1,q2⟩:=t4 z' hz' hf hr
       exact ⟨l,by simp [q1],q2⟩
      ·exact ⟨_,by simp,hl⟩
    ·simp only [wK,xF] at hz'
     rcases hz' with hz'|rfl
     ·exact t4 z' hz' hf hr
     ·simp [hf,hr] at cc
   ·obtain ⟨b1,b2,b3,b4⟩:=h2
    refine ⟨?_,b2,fun l hl=>b3 l (s3 l hl),fun y' hy' z hz hf hr=>?_⟩
    ·simp only [xH,zV];omega
    ·simp only [wK,xF] at hy'
     rcases hy' with hy'|rfl
     ·obtain ⟨l,q1,q2⟩:=s4 y' hy' z hz hf hr
      exact ⟨l,b3 l q1,q2⟩
     ·exact b4 z hz hf hr
  ·obtain ⟨h1,h2,h3,h4⟩:=h
   rcases hb with ⟨m,hm',hf,rfl⟩|⟨y,hy,z,hz,hf,hr,rfl⟩
   ·obtain ⟨l,q1,q2⟩:=a3 m hm' hf
    exact ⟨l,h3 l q1,q2⟩
   ·exact h4 y hy z hz hf hr
end Go.Ab
namespace Go.Ab
open Go.Proofs
theorem aget_none {β:Type} {q:Int}:∀{m:List (Int×β)},q∉m.map Prod.fst→aget q m=none
 | [],h=>rfl
 | (a,b)::r,h=>by
  simp only [wX,wW,not_or] at h
  simp only [aget,if_neg h.1,aget_none h.2]
theorem aget_mem {β:Type} {q:Int}:∀{m:List (Int×β)},q∈m.map Prod.fst→∃v,aget q m=some v∧(q,v)∈m
 | (a,b)::r,h=>by
  by_cases e:q=a
  ·exact ⟨b,by simp [aget,e],by simp [e]⟩
  ·have:q∈r.map Prod.fst:=by simpa [e] using h
   obtain ⟨v,hv,hm⟩:=aget_mem this
   exact ⟨v,by simp [aget,e,hv],by simp [hm]⟩
theorem aput_new {β:Type} {k:Int} {v:β}:∀{m:List (Int×β)},k∉m.map Prod.fst→aput k v m=m++[(k,v)]
 | [],h=>rfl
 | (a,b)::r,h=>by
  simp only [wX,wW,not_or] at h
  simp only [aput,if_neg h.1,aput_new h.2,wB]
def srtIS (l:List Int):List Int:=l.mergeSort fun x y=>decide (x≤y)
theorem srtI_permS (l:List Int):(srtIS l).Perm l:=List.mergeSort_perm _ _
theorem srtI_sortedS (l:List Int):(srtIS l).Pairwise (fun x y=>x≤y):=by
 have:=List.pairwise_mergeSort (le:=fun x y:Int=>decide (x≤y)) (fun a b c h1 h2=>by simp at *;omega) (fun a b=>by simp;omega) l
 exact this.imp fun h=>by simpa using h
theorem srtI_congrS {l m:List Int} (h:l.Perm m):srtIS l=srtIS m :=
 ((srtI_permS l).trans (h.trans (srtI_permS m).symm)).eq_of_pairwise (fun a b _ _ h1 h2=>by omega) (srtI_sortedS l) (srtI_sortedS m)
theorem len_range:∀{l m:List Int},l.Nodup→(∀a∈l,a∈m)→l.length≤m.length
 | [],m,_,_=>by simp
 | x::r,m,hn,hs=>by
  rw [List.nodup_cons] at hn
  have hx:=hs x (by simp)
  have:r.length≤(m.erase x).length:=len_range hn.2 fun a ha=>(List.mem_erase_of_ne fun e=>hn.1 (by rw [←e];exact ha)).2 (hs a (by simp [ha]))
  rw [List.length_erase_of_mem hx] at this
  have:0<m.length:=List.length_pos_of_mem hx
  simp;omega
theorem len24 {l:List Int} (hn:l.Nodup) (h:∀a∈l,0≤a∧a≤23):l.length≤24:=by
 have:=len_range (m:=(List.range 24).map fun i:Nat=>(i:Int)) hn fun a ha=>by
  have:=h a ha
  simp only [vB,List.mem_range]
  exact ⟨a.toNat,by omega,by omega⟩
 simpa using this
theorem foldL_pushS {α β:Type} {body:Int→α→List β→Option (List β)} (g:α→β) (b:Nat) (n:Nat) (hn:n*b≤140737488355328) (h:∀k x s,body k x s=chk (room (s.length+[g x].length) b) (some (s++[g x]))) :
  ∀(xs:List α) (k:Int) (s:List β),s.length+xs.length≤n→foldL body xs k s=some (s++xs.map g)
 | [],k,s,hl=>by simp [foldL]
 | x::r,k,s,hl=>by
  have:room (s.length+[g x].length) b=true:=room_iff.2 (by
   simp at hl ⊢
   exact w8 (zZ b (by omega)) hn)
  simp only [foldL,h,chk_true this,xX]
  rw [foldL_pushS g b n hn h r (k+1) _ (by simp at hl ⊢;omega)]
  simp
inductive Rch (x:GRights) (c:Int):Int→Prop
 | refl:Rch x c c
 | step {a b:Int} (h:Rch x c a) (hl:leads x a b):Rch x c b
theorem leads_range {x:GRights} (g:GoodR x) {a b:Int} (h:leads x a b):0≤b∧b≤x.Credentials - 1:=by
 rcases h with ⟨m,hm,_,rfl⟩|⟨_,_,s,hs,_,_,rfl⟩
 ·exact (g.mi m hm).2
 ·exact (g.st s hs).1
theorem rch_range {x:GRights} (g:GoodR x) {c k:Int} (hc:0≤c∧c≤x.Credentials - 1) (h:Rch x c k):0≤k∧k≤x.Credentials - 1:=by
 cases h with
 | refl=>exact hc
 | step h hl=>exact leads_range g hl
theorem clone_eq {s:List GLink} (h:s.length≤1000):F_1u s=some s:=by
 have h1:room (([]:List GLink).length+s.length) 32=true:=room_sm (by simp;omega)
 unfold F_1u
 rw [amb_eq]
 ·rw [chk_true h1];rfl
 ·intro he
  rw [chk_true h1]
  have:s=[]:=by simpa using he
  subst this;rfl
inductive Walk (x:GRights) (c:Int):List GLink→Int→Prop
 | nil:Walk x c [] c
 | snoc {ch:List GLink} {a b:Int} {l:GLink} (h:Walk x c ch a) (hl:lnkTo x a l b):Walk x c (ch++[l]) b
structure Inv (x:GRights) (c:Int) (q:List Int) (o:List (Int×List GLink)):Prop where
 nd:(o.map Prod.fst).Nodup
 rc:∀k∈o.map Prod.fst,Rch x c k
 st:c∈o.map Prod.fst
 qn:q.Nodup
 qs:∀k∈q,k∈o.map Prod.fst
 cl:∀a∈o.map Prod.fst,a∉q→∀b,leads x a b→b∈o.map Prod.fst
 ln:∀p∈o,p.2.length≤o.length
 wk:∀p∈o,Walk x c p.2 p.1
theorem Inv.len {x:GRights} (g:GoodR x) {c:Int} (hc:0≤c∧c≤x.Credentials - 1) {q:List Int} {o:List (Int×List GLink)} (h:Inv x c q o):o.length≤24:=by
 have:=len24 h.nd fun a ha=>by have:=rch_range g hc (h.rc a ha);have:=g.c1;omega
 simpa using this
theorem chains_ok {x:GRights} (g:GoodR x) {c:Int} (hc:0≤c∧c≤x.Credentials - 1):Ok (F_n x c) fun o=>(o.map Prod.fst).Nodup∧o.length≤24∧(∀k,k∈o.map Prod.fst↔Rch x c k)∧∀p∈o,p.2.length≤24∧Walk x c p.2 p.1:=by
 unfold F_n
 refine Ok.bind (Ok.loop (Q:=fun o:List (Int×List GLink)=>(o.map Prod.fst).Nodup∧o.length≤24∧(∀k,k∈o.map Prod.fst↔Rch x c k)∧∀p∈o,p.2.length≤24∧Walk x c p.2 p.1) (fun s=>Inv x c s.1 s.2) (fun s=>2*(24 - s.2.length)+s.1.length) (fun s hs=>?_) _ ?_) fun r hr=>Ok.ret hr
 ·obtain ⟨q,o⟩:=s
  simp only at hs
  unfold F_5f
  refine Ok.ite (fun cq=>?_) fun cq=>?_
  ·have cq:0<(q.length:Int):=by simpa using cq
   obtain ⟨q0,rest,rfl⟩:∃a r,q=a::r:=by
    cases q with
    | nil=>simp at cq
    | cons a r=>exact ⟨a,r,rfl⟩
   refine Ok.chk (inb_iff.2 ⟨by omega,cq⟩) ?_
   have e0:(q0::rest).getD 0 default=q0:=rfl
   simp only [e0]
   refine Ok.bind (links_ok g q0) fun ls hls=>?_
   obtain ⟨l1,l2,l3⟩:=hls
   refine Ok.bind (Ok.foldI (all:=ls) (Q:=fun s:List Int×List (Int×List GLink)=>(∃news,s.1=q0::(rest++news))∧Inv x c s.1 s.2∧2*(24 - s.2.length)+s.1.length≤2*(24 - o.length)+(q0::rest).length∧∀l∈ls,∀b,lnkTo x q0 l b→b∈s.2.map Prod.fst)
    (fun pre s=>(∃news,s.1=q0::(rest++news))∧Inv x c s.1 s.2∧2*(24 - s.2.length)+s.1.length≤2*(24 - o.length)+(q0::rest).length∧∀l∈pre,∀b,lnkTo x q0 l b→b∈s.2.map Prod.fst) ls [] 0 _ rfl rfl ⟨⟨[],by simp⟩,hs,vG _,by simp⟩ (fun pre l r s hw hs=>?_) fun s hs=>hs) fun s hs=>?_
   ·obtain ⟨q',o'⟩:=s
    obtain ⟨⟨news,hq'⟩,hi,hm,hp⟩:=hs
    simp only at hq' hi hm hp
    subst hq'
    obtain ⟨b,hb,hlb⟩:=l2 l (by rw [hw];simp)
    have hlen:=hi.len g hc
    have hq0:=hi.qs q0 (by simp)
    unfold F_4h
    have e1:(q0::(rest++news)).getD 0 default=q0:=rfl
    have i0:inb 0 (q0::(rest++news)).length=true:=inb_iff.2 ⟨by omega,by simp;omega⟩
    simp only [e1,hb,xX,chk_true i0]
    by_cases hbk:b∈o'.map Prod.fst
    ·obtain ⟨v,hv,_⟩:=aget_mem hbk
     simp only [hv,Option.isSome_some,wY,vJ]
     refine Ok.ret ⟨⟨news,rfl⟩,hi,hm,fun l' hl' b' hb'=>?_⟩
     simp only [wK,xF] at hl'
     rcases hl' with hl'|rfl
     ·exact hp l' hl' b' hb'
     ·rw [hb'.1] at hb;cases hb;exact hbk
    ·simp only [aget_none hbk,Option.isSome_none,wU,vL]
     obtain ⟨ch,hch,hchm⟩:=aget_mem hq0
     have hchl:=hi.ln _ hchm
     simp only at hchl
     simp only [hch,xW,clone_eq (show ch.length≤1000 by omega),xX]
     have hql:(q0::(rest++news)).length≤o'.length:=by
      have:=len_range hi.qn hi.qs
      simpa using this
     refine Ok.chk (room_sm (by simp;omega)) (Ok.chk (room_sm (by simp at hql ⊢;omega)) (Ok.ret ?_))
     have hkeys:(aput b (ch++[l]) o').map Prod.fst=o'.map Prod.fst++[b]:=by rw [aput_new hbk];simp
     have hol:(aput b (ch++[l]) o').length=o'.length+1:=by rw [aput_new hbk];simp
     have hbq:b∉q0::(rest++news):=fun h=>hbk (hi.qs b h)
     have hrb:Rch x c b:=.step (hi.rc q0 hq0) hlb
     have hnew:Inv x c (q0::(rest++news)++[b]) (aput b (ch++[l]) o'):=by
      refine ⟨?_,?_,?_,?_,?_,?_,?_,?_⟩
      ·rw [hkeys,List.nodup_append]
       exact ⟨hi.nd,by simp,fun a ha z hz e=>by simp at hz;subst hz;subst e;exact hbk ha⟩
      ·intro k hk
       rw [hkeys] at hk
       simp only [wK,xF] at hk
       rcases hk with hk|rfl
       ·exact hi.rc k hk
       ·exact hrb
      ·rw [hkeys];simp [hi.st]
      ·rw [List.nodup_append]
       exact ⟨hi.qn,by simp,fun a ha z hz e=>by simp at hz;subst hz;subst e;exact hbq ha⟩
      ·intro k hk
       rw [hkeys]
       simp only [wK,xF] at hk ⊢
       rcases hk with hk|rfl
       ·exact .inl (hi.qs k hk)
       ·exact .inr rfl
      ·intro a ha hna z hz
       rw [hkeys] at ha ⊢
       simp only [wK,xF] at ha ⊢
       simp only [wK,xF,not_or] at hna
       rcases ha with ha|rfl
       ·exact .inl (hi.cl a ha hna.1 z hz)
       ·exact absurd rfl hna.2
      ·intro p hpm
       rw [hol]
       rw [aput_new hbk] at hpm
       simp only [wK,xF] at hpm
       rcases hpm with hpm|rfl
       ·have:=hi.ln p hpm;omega
       ·simp;omega
      ·intro p hpm
       rw [aput_new hbk] at hpm
       simp only [wK,xF] at hpm
       rcases hpm with hpm|rfl
       ·exact hi.wk p hpm
       ·exact .snoc (hi.wk _ hchm) ⟨hb,hlb⟩
     have hlen2:=hnew.len g hc
     refine ⟨⟨news++[b],by simp⟩,hnew,?_,fun l' hl' b' hb'=>?_⟩
     ·simp only [hol,xH,x8,wL] at hm ⊢
      rw [hol] at hlen2
      omega
     ·rw [hkeys]
      simp only [wK,xF] at hl' ⊢
      rcases hl' with hl'|rfl
      ·exact .inl (hp l' hl' b' hb')
      ·rw [hb'.1] at hb;cases hb;exact .inr rfl
   ·obtain ⟨q',o'⟩:=s
    obtain ⟨⟨news,hq'⟩,hi,hm,hp⟩:=hs
    simp only at hq' hi hm hp
    subst hq'
    refine Ok.chk (inc_iff.2 ⟨by omega,by simp;omega,by omega⟩) (Ok.ret ?_)
    have e1:((q0::(rest++news)).drop 1).take ((q0::(rest++news)).length - 1)=rest++news:=by
     simp only [xC,wT,x8,Nat.add_sub_cancel]
     exact xY
    rw [e1]
    have hqn:=hi.qn
    rw [List.nodup_cons] at hqn
    refine ⟨⟨hi.nd,hi.rc,hi.st,hqn.2,fun k hk=>hi.qs k (by simp only [wW];exact .inr hk),fun a ha hna b hb=>?_,hi.ln,hi.wk⟩,?_⟩
    ·by_cases e:a=q0
     ·subst e
      obtain ⟨l,hl,hlk⟩:=l3 b hb
      exact hp l hl b hlk
     ·exact hi.cl a ha (by simp only [wW,not_or];exact ⟨e,hna⟩) b hb
    ·show 2*(24 - o'.length)+(rest++news).length<2*(24 - o.length)+(q0::rest).length
     simp only [x8] at hm ⊢
     omega
  ·have:q=[]:=by
    have cq:¬0<(q.length:Int):=by simpa using cq
    exact zM.1 (by omega)
   subst this
   refine Ok.ret ⟨hs.nd,hs.len g hc,fun k=>⟨hs.rc k,fun h=>?_⟩,fun p hp=>⟨w8 (hs.ln p hp) (hs.len g hc),hs.wk p hp⟩⟩
   induction h with
   | refl=>exact hs.st
   | step h hl ih=>exact hs.cl _ ih (by simp) _ hl
 ·refine ⟨by simp [aput],?_,by simp [aput],by simp,by simp [aput],?_,?_,?_⟩
  ·intro k hk;simp [aput] at hk;subst hk;exact .refl
  ·intro a ha hna;simp [aput] at ha;simp at hna;exact absurd ha hna
  ·intro p hp;simp [aput] at hp;subst hp;simp [aput]
  ·intro p hp;simp [aput] at hp;subst hp;exact .nil
theorem reach_ok {x:GRights} (g:GoodR x) {c:Int} (hc:0≤c∧c≤x.Credentials - 1):Ok (F_3f x c) fun r=>r.Pairwise (fun a b=>a<b)∧∀k,k∈r↔Rch x c k:=by
 classical
 obtain ⟨o,ho,h1,h2,h3,_⟩:=chains_ok g hc
 refine ⟨srtIS (o.map Prod.fst),?_,?_,fun k=>by rw [(srtI_permS _).mem_iff];exact h3 k⟩
 ·have hcr:F_9 x c=some true:=by rw [cred_eq x c g.c0 g.c1];exact congrArg some (wS hc)
  simp only [F_3f,rcheck_eq,if_pos g,xX,decide_true,wY,vJ,hcr,ho]
  refine permL_of fun l hl=>?_
  have hlen:l.length≤24:=by rw [hl.length_eq];exact h2
  rw [foldL_pushS (body:=F_5g) (g:=Prod.fst) (b:=8) (n:=24) (by omega) (fun k x s=>rfl) l 0 [] (by simpa using hlen)]
  simp only [xX,wI,sortI]
  have:(l.map Prod.fst).length<4611686018427387904:=by simp;omega
  rw [if_pos this]
  exact congrArg some (srtI_congrS (hl.map _))
 ·have hn:(srtIS (o.map Prod.fst)).Nodup:=(srtI_permS _).nodup_iff.2 h1
  have:=(srtI_sortedS (o.map Prod.fst)).and hn
  exact this.imp fun ⟨a1,a2⟩=>by omega
theorem contains_eq (s:List Int) (v:Int):F_q s v=some (decide (v∈s)):=by
 have h:=contains_of (body:=F_22 v) (fun y=>v=y) s fun k y=>by
  by_cases c:v=y<;>simp [F_22,c]
 have e:decide (∃y∈s,v=y)=decide (v∈s):=decide_eq_decide.2 ⟨fun ⟨y,hy,e⟩=>e▸hy,fun h=>⟨v,h,rfl⟩⟩
 rw [e] at h
 exact h
theorem asc_ok {l:List Int} (h:l.Pairwise (fun a b=>a<b)) (hl:l.length≤1000):F_3g l=some true:=by
 refine Ok.eq ?_
 unfold F_3g
 refine Ok.bind (Ok.loop (Q:=fun r:Sum Unit Bool=>r=.inl ()) (fun i:Int=>1≤i) (fun i:Int=>((l.length:Int) - i).toNat) (fun i hi=>?_) _ (vI 1)) fun r hr=>by subst hr;exact Ok.ret rfl
 unfold F_6s
 refine Ok.ite (fun c=>?_) fun c=>Ok.ret rfl
 have c:i<(l.length:Int):=by simpa using c
 refine Ok.chk (in64_sm (by omega) (by omega)) (Ok.chk (inb_iff.2 ⟨by omega,by omega⟩) (Ok.chk (inb_iff.2 ⟨by omega,by omega⟩) ?_))
 have h1:(i - 1).toNat<l.length:=by omega
 have h2:i.toNat<l.length:=by omega
 have:=List.pairwise_iff_getElem.1 h (i - 1).toNat i.toNat h1 h2 (by omega)
 rw [zE,zE,zJ h1,zJ h2,xW,xW]
 refine Ok.ite (fun c=>by have:=of_decide_eq_true c;omega) fun _=>Ok.chk (in64_sm (by omega) (by omega)) (Ok.ret ?_)
 exact ⟨by omega,by omega⟩
theorem closed_ok {x:GRights} (g:GoodR x) {r:List Int} (h0:r≠[]) (hp:r.Pairwise (fun a b=>a<b)) (hr:∀k∈r,0≤k∧k≤x.Credentials - 1) (hc:∀a∈r,∀b,leads x a b→b∈r):F_1v x r=some true:=by
 classical
 have hl:r.length≤24:=len24 (hp.imp fun h=>by omega) fun a ha=>by have:=hr a ha;have:=g.c1;omega
 have hlp:0<r.length:=List.length_pos_iff.2 h0
 have e1:decide ((r.length:Int)=0)=false:=wF (by omega)
 have e2:F_3h r x=some (decide (∃k∈r,¬(0≤k∧k≤x.Credentials - 1))):=by
  refine contains_of (fun k=>¬(0≤k∧k≤x.Credentials - 1)) r fun k a=>?_
  simp only [F_6t,F_o,cred_eq x _ g.c0 g.c1,xX]
  by_cases c:0≤a∧a≤x.Credentials - 1<;>simp [c]
 have e3:decide (∃k∈r,¬(0≤k∧k≤x.Credentials - 1))=false:=wF fun ⟨k,hk,hn⟩=>hn (hr k hk)
 rw [e3] at e2
 refine Ok.eq ?_
 unfold F_1v
 simp only [rcheck_eq,if_pos g,xX,decide_true,wY,wZ,e1,grp,vJ,asc_ok hp (by omega),e2]
 refine Ok.bind (Ok.for (Q:=fun o=>o=.nx ()) (fun _=>True) r 0 () trivial (fun k a s ha _=>?_) fun s _=>rfl) fun o ho=>by subst ho;exact Ok.ret rfl
 unfold F_4j
 refine Ok.bind (links_ok g a) fun ls hls=>?_
 refine Ok.bind (Ok.for (Q:=fun o=>o=.nx ()) (fun _=>True) ls 0 () trivial (fun k l s hl _=>?_) fun s _=>rfl) fun o ho=>by subst ho;exact Ok.ret trivial
 obtain ⟨b,hb,hlb⟩:=hls.2.1 l hl
 unfold F_4i
 have hbm:decide (b∈r)=true:=wS (hc a ha b hlb)
 simp only [hb,xX,contains_eq,hbm,wY,vJ]
 exact Ok.ret trivial
open Classical in
noncomputable def mx (p:Int→Prop) (i:Int) (gs:List GGrant):Int:=gs.foldl (fun m g=>if p g.Credential∧g.Resource=i then max m g.Right else m) 0
open Classical in
theorem mx_snoc (p:Int→Prop) (i:Int) (gs:List GGrant) (g:GGrant):mx p i (gs++[g])=if p g.Credential∧g.Resource=i then max (mx p i gs) g.Right else mx p i gs:=by simp [mx]
open Classical in
theorem mx_range (p:Int→Prop) (i:Int) (gs:List GGrant) (h:∀g∈gs,1≤g.Right∧g.Right≤3):0≤mx p i gs∧mx p i gs≤3:=by
 unfold mx
 have:∀(l:List GGrant) (a:Int),(∀g∈l,1≤g.Right∧g.Right≤3)→0≤a→a≤3→0≤l.foldl (fun m g=>if p g.Credential∧g.Resource=i then max m g.Right else m) a∧l.foldl (fun m g=>if p g.Credential∧g.Resource=i then max m g.Right else m) a≤3:=by
  intro l
  induction l with
  | nil=>intro a _ h1 h2;exact ⟨h1,h2⟩
  | cons g r ih =>
   intro a hg h1 h2
   have:=hg g (by simp)
   simp only [wN]
   refine ih _ (fun g hg'=>hg g (by simp [hg'])) ?_ ?_<;>split<;>omega
 exact this gs 0 h (by omega) (by omega)
theorem bound_ok {x:GRights} (g:GoodR x) {r:List Int} (hr:F_1v x r=some true):Ok (F_3i x r) fun b=>(b.length:Int)=x.Resources∧∀i:Nat,i<b.length→b.getD i default=mx (·∈r) i x.Grants:=by
 classical
 have h0:=g.r0;have h1:=g.r1
 unfold F_3i
 rw [hr]
 simp only [xX,wY,vJ]
 refine Ok.chk (roomI_iff.2 ⟨h0,vI _,by omega⟩) (Ok.bind (Ok.foldI (all:=x.Grants) (Q:=fun b:List Int=>(b.length:Int)=x.Resources∧∀i:Nat,i<b.length→b.getD i default=mx (·∈r) i x.Grants)
  (fun pre b=>(b.length:Int)=x.Resources∧∀i:Nat,i<b.length→b.getD i default=mx (·∈r) i pre) x.Grants [] 0 _ rfl rfl ⟨by simp;omega,fun i hi=>?_⟩ (fun pre y q s hw hs=>?_) fun s hs=>hs) fun b hb=>Ok.ret hb)
 ·simp only [List.length_replicate] at hi
  simp [mx,hi]
 ·obtain ⟨s1,s2⟩:=hs
  have hy:=g.gr y (by rw [hw];simp)
  unfold F_6u
  rw [contains_eq]
  refine Ok.bind (P:=fun b=>b=decide (y.Credential∈r)) ⟨_,rfl,rfl⟩ fun b hb=>?_
  subst hb
  refine Ok.ite (fun c=>?_) fun c=>Ok.ret ⟨s1,fun i hi=>?_⟩
  ·have c:y.Credential∈r:=of_decide_eq_true c
   have hb:=hy.2.1
   have i0:inb y.Resource s.length=true:=inb_iff.2 ⟨hb.1,by omega⟩
   refine Ok.chk i0 (Ok.chk i0 (Ok.ret ⟨by simpa using s1,fun i hi=>?_⟩))
   simp only [List.length_set] at hi
   rw [mx_snoc,zE,xP]
   by_cases e:y.Resource.toNat=i
   ·have e2:y.Resource=(i:Int):=by omega
    rw [if_pos e,if_pos (by omega),xW,if_pos ⟨c,e2⟩,e,s2 i hi]
   ·have e2:¬y.Resource=(i:Int):=by omega
    rw [if_neg e,if_neg (fun h=>e2 h.2),←zE,s2 i hi]
  ·have c:¬y.Credential∈r:=of_decide_eq_false c
   rw [mx_snoc,if_neg (fun h=>c h.1)]
   exact s2 i hi
theorem mx_congr {p p':Int→Prop} (h:∀c,p c↔p' c) (i:Int) (gs:List GGrant):mx p i gs=mx p' i gs:=by
 have:p=p':=funext fun c=>propext (h c)
 rw [this]
theorem power_ok {x:GRights} (g:GoodR x) {c:Int} (hc:0≤c∧c≤x.Credentials - 1):Ok (F_3j x c) fun p=>(p.length:Int)=x.Resources∧∀i:Nat,i<p.length→p.getD i default=mx (Rch x c) i x.Grants:=by
 unfold F_3j
 refine Ok.bind (reach_ok g hc) fun r hr=>?_
 obtain ⟨h1,h2⟩:=hr
 have h0:r≠[]:=fun e=>by
  have:=(h2 c).2 .refl
  rw [e] at this;cases this
 refine Ok.bind (bound_ok g (closed_ok g h0 h1 (fun k hk=>rch_range g hc ((h2 k).1 hk)) fun a ha b hb=>(h2 b).2 (.step ((h2 a).1 ha) hb))) fun b hb=>Ok.ret ⟨hb.1,fun i hi=>?_⟩
 rw [hb.2 i hi]
 exact mx_congr h2 i x.Grants
noncomputable def sumW (w:List Int) (x:GRights) (c:Int):Nat→Int
 | 0=>0
 | n+1=>sumW w x c n+w.getD n default*mx (Rch x c) n x.Grants
def wOK (w:List Int):Prop:=∀a∈w,0≤a∧a≤100
theorem wget {w:List Int} (h:wOK w) {n:Nat} (hn:n<w.length):0≤w.getD n default∧w.getD n default≤100:=by
 rw [zE,zJ hn]
 exact h _ (wA hn)
theorem sumW_range {w:List Int} {x:GRights} (g:GoodR x) (hw:wOK w) (c:Int):∀n,n≤w.length→0≤sumW w x c n∧sumW w x c n≤300*n
 | 0,_=>⟨vI 0,vI 0⟩
 | n+1,h=>by
  have ih:=sumW_range g hw c n (by omega)
  have h1:=wget hw (n:=n) (by omega)
  have h2:=mx_range (Rch x c) n x.Grants fun y hy=>(g.gr y hy).2.2
  have h3:=Int.mul_nonneg h1.1 h2.1
  have h4:=Int.mul_le_mul h1.2 h2.2 h2.1 (by omega)
  simp only [sumW]
  omega
theorem worth_ok {x:GRights} (g:GoodR x) {w:List Int} (hw:wOK w) (hl:(w.length:Int)=x.Resources) {c:Int} (hc:0≤c∧c≤x.Credentials - 1):Ok (F_3k x w c) fun y=>y=(sumW w x c w.length,0):=by
 classical
 have h1:=g.r1
 have e1:F_4g w=some (decide (∃a∈w,¬(0≤a∧a≤100))):=by
  refine contains_of (fun a=>¬(0≤a∧a≤100)) w fun k a=>?_
  simp only [F_6o,F_z,grp,xX]
  by_cases q:0≤a∧a≤100
  ·have:(decide (a<0)||decide (100<a))=false:=by simp only [xB,zK];omega
   simp [this,q]
  ·have:(decide (a<0)||decide (100<a))=true:=by simp only [wQ,xM];omega
   simp only [this,vL,q,not_false_eq_true,if_true]
 have e2:decide (∃a∈w,¬(0≤a∧a≤100))=false:=wF fun ⟨a,ha,hn⟩=>hn (hw a ha)
 rw [e2] at e1
 have e3:(decide (c<0)||decide (x.Credentials≤c))=false:=by simp only [xB,zK];omega
 unfold F_3k
 simp only [rcheck_eq,if_pos g,xX,decide_true,wY,vJ,hl,e1,e3,grp]
 refine Ok.bind (power_ok g hc) fun p hp=>?_
 have hpl:p.length=w.length:=by have:=hp.1;omega
 refine Ok.bind (Ok.foldI (all:=p) (Q:=fun s=>s=sumW w x c w.length) (fun pre s=>s=sumW w x c pre.length) p [] 0 0 rfl rfl rfl (fun pre y q s hwh hs=>?_) fun s hs=>by rw [hs,hpl]) fun s hs=>Ok.ret (by rw [hs])
 have hlen:pre.length<p.length:=by have:=congrArg List.length hwh;simp at this;omega
 have hy:p.getD pre.length default=y:=by rw [hwh];simp
 rw [hp.2 _ hlen] at hy
 subst hs
 have r1:=sumW_range g hw c pre.length (by omega)
 have r2:=sumW_range g hw c (pre.length+1) (by omega)
 simp only [sumW,hy] at r2
 have e4:sumW w x c (pre++[y]).length=sumW w x c pre.length+w.getD pre.length default*y:=by simp only [xH,zV,sumW,hy]
 unfold F_6v
 simp only [xU]
 refine Ok.chk (inb_iff.2 ⟨by omega,by omega⟩) (Ok.chk (in64_sm (by omega) (by omega)) (Ok.chk (in64_sm (by omega) (by omega)) (Ok.ret e4.symm)))
def aud (n:Int) (pub:Bool):Int:=bif pub then 100 else 1+n
theorem rate_ok {x:GRights} (g:GoodR x) {w:List Int} (hw:wOK w) (hl:(w.length:Int)=x.Resources) {c:Int} (hc:0≤c∧c≤x.Credentials - 1) {n:Int} (hn:0≤n∧n≤24) (pub:Bool) :
  F_3m x w c n pub=some (GSeverity.mk (lvl (sumW w x c w.length*aud n pub)) (sumW w x c w.length) (aud n pub) (sumW w x c w.length*aud n pub),0):=by
 have h1:=g.r1
 have r:=sumW_range g hw c w.length (vG _)
 have ha:1≤aud n pub∧aud n pub≤100:=by unfold aud;cases pub<;>simp<;>omega
 have hp:0≤sumW w x c w.length*aud n pub∧sumW w x c w.length*aud n pub≤720000:=by
  refine ⟨Int.mul_nonneg r.1 (by omega),?_⟩
  have:=Int.mul_le_mul (show sumW w x c w.length≤7200 by omega) ha.2 (by omega) (by omega)
  omega
 obtain ⟨y,hy,rfl⟩:=worth_ok g hw hl hc
 have e3:(decide (n<0)||decide (24<n))=false:=by simp only [xB,zK];omega
 have i1:in64 (1+n)=true:=in64_sm (by omega) (by omega)
 have i2:in64 (sumW w x c w.length*aud n pub)=true:=in64_sm (by omega) (by omega)
 unfold F_3m
 rw [hy]
 simp only [xX,decide_true,wY,vJ,e3,grp,chk_true i1,jn]
 cases pub with
 | true =>
  simp only [aud,vL] at i2 ⊢
  simp only [xX,chk_true i2,level_eq]
 | false =>
  simp only [aud,vJ] at i2 ⊢
  simp only [xX,chk_true i2,level_eq]
end Go.Ab
namespace Go.Ab
open Go.Proofs
theorem rights_ok2 {t:GTape} (h:TOK t):Ok (F_1c t) fun y=>GoodR y.1∧1≤y.1.Credentials∧y.1.Credentials≤6∧1≤y.1.Resources∧y.1.Resources≤5∧y.1.Grants.length≤8∧TOK y.2∧y.1.Stores.length≤8∧y.1.Mints.length≤8:=by
 unfold F_1c
 refine Ok.bind (between_ok h (by omega) (by omega) (by omega)) fun C hC=>Ok.bind (between_ok hC.2.2 (by omega) (by omega) (by omega)) fun R hR=>Ok.bind (next_ok hR.2.2 (by omega)) fun k hk=>?_
 obtain ⟨c1,c2,_⟩:=hC
 obtain ⟨r1,r2,_⟩:=hR
 refine Ok.bind (Ok.loop (Q:=fun y:Int×Int×List GGrant×GTape=>y.1=C.1∧y.2.1=R.1∧y.2.2.1.length≤8∧(∀g∈y.2.2.1,(0≤g.Credential∧g.Credential≤C.1 - 1)∧(0≤g.Resource∧g.Resource≤R.1 - 1)∧1≤g.Right∧g.Right≤3)∧TOK y.2.2.2)
  (fun x=>0≤x.1∧x.2.1=C.1∧x.2.2.1=R.1∧(x.2.2.2.1.length:Int)+x.1≤8∧(∀g∈x.2.2.2.1,(0≤g.Credential∧g.Credential≤C.1 - 1)∧(0≤g.Resource∧g.Resource≤R.1 - 1)∧1≤g.Right∧g.Right≤3)∧TOK x.2.2.2.2) (fun x=>x.1.toNat) (fun x hx=>?_) _ ⟨hk.1,rfl,rfl,by show ((0:Nat):Int)+k.1≤8;omega,by simp,hk.2.2⟩) fun y1 h1=>?_
 ·obtain ⟨n,a,b,out,t⟩:=x
  obtain ⟨x1,rfl,rfl,x4,x5,x6⟩:=hx
  simp only at x1 x4 x5 x6
  unfold F_5t
  dsimp only
  refine Ok.ite (fun c=>?_) fun c=>Ok.ret ⟨rfl,rfl,by show out.length≤8;omega,x5,x6⟩
  have c:0<n:=by simpa using c
  refine Ok.bind (next_ok x6 (by omega)) fun p hp=>Ok.bind (next_ok hp.2.2 (by omega)) fun q hq=>Ok.bind (between_ok hq.2.2 (by omega) (by omega) (by omega)) fun w hw=>?_
  obtain ⟨p1,p2,_⟩:=hp
  obtain ⟨q1,q2,_⟩:=hq
  obtain ⟨w1,w2,w3⟩:=hw
  refine Ok.chk (room_sm (by simp;omega)) (Ok.chk (in64_sm (by show _≤n - 1;omega) (by show n - 1≤_;omega)) (Ok.ret ?_))
  refine ⟨⟨by show 0≤n - 1;omega,rfl,rfl,by simp;omega,fun g hg=>?_,w3⟩,by show (n - 1).toNat<n.toNat;omega⟩
  simp only [wK,xF] at hg
  rcases hg with hg|rfl
  ·exact x5 g hg
  ·exact ⟨⟨p1,by show p.1≤C.1 - 1;omega⟩,⟨q1,by show q.1≤R.1 - 1;omega⟩,w1,w2⟩
 obtain ⟨a1,a2,a3,a4,a5⟩:=h1
 refine Ok.bind (next_ok a5 (by omega)) fun k2 hk2=>?_
 refine Ok.bind (Ok.loop (Q:=fun y:Int×Int×List GStore×GTape=>y.1=C.1∧y.2.1=R.1∧y.2.2.1.length≤8∧(∀g∈y.2.2.1,(0≤g.Credential∧g.Credential≤C.1 - 1)∧0≤g.Resource∧g.Resource≤R.1 - 1)∧TOK y.2.2.2)
  (fun x=>0≤x.1∧x.2.1=C.1∧x.2.2.1=R.1∧(x.2.2.2.1.length:Int)+x.1≤8∧(∀g∈x.2.2.2.1,(0≤g.Credential∧g.Credential≤C.1 - 1)∧0≤g.Resource∧g.Resource≤R.1 - 1)∧TOK x.2.2.2.2) (fun x=>x.1.toNat) (fun x hx=>?_) _ ⟨hk2.1,a1,a2,by show ((0:Nat):Int)+k2.1≤8;omega,by simp,hk2.2.2⟩) fun y2 h2=>?_
 ·obtain ⟨n,a,b,out,t⟩:=x
  obtain ⟨x1,x2,x3,x4,x5,x6⟩:=hx
  simp only at x1 x2 x3 x4 x5 x6
  subst x2 x3
  unfold F_5u
  dsimp only
  refine Ok.ite (fun c=>?_) fun c=>Ok.ret ⟨rfl,rfl,by show out.length≤8;omega,x5,x6⟩
  have c:0<n:=by simpa using c
  refine Ok.bind (next_ok x6 (by omega)) fun p hp=>Ok.bind (next_ok hp.2.2 (by omega)) fun q hq=>?_
  obtain ⟨p1,p2,_⟩:=hp
  obtain ⟨q1,q2,q3⟩:=hq
  refine Ok.chk (room_sm (by simp;omega)) (Ok.chk (in64_sm (by show _≤n - 1;omega) (by show n - 1≤_;omega)) (Ok.ret ?_))
  refine ⟨⟨by show 0≤n - 1;omega,rfl,rfl,by simp;omega,fun g hg=>?_,q3⟩,by show (n - 1).toNat<n.toNat;omega⟩
  simp only [wK,xF] at hg
  rcases hg with hg|rfl
  ·exact x5 g hg
  ·exact ⟨⟨q1,by show q.1≤C.1 - 1;omega⟩,p1,by show p.1≤R.1 - 1;omega⟩
 obtain ⟨b1,b2,b3,b4,b5⟩:=h2
 refine Ok.bind (next_ok b5 (by omega)) fun k3 hk3=>?_
 refine Ok.bind (Ok.loop (Q:=fun y:Int×Int×List GMint×GTape=>y.1=C.1∧y.2.1=R.1∧y.2.2.1.length≤8∧(∀g∈y.2.2.1,(0≤g.From∧g.From≤C.1 - 1)∧0≤g.To∧g.To≤C.1 - 1)∧TOK y.2.2.2)
  (fun x=>0≤x.1∧x.2.1=C.1∧x.2.2.1=R.1∧(x.2.2.2.1.length:Int)+x.1≤8∧(∀g∈x.2.2.2.1,(0≤g.From∧g.From≤C.1 - 1)∧0≤g.To∧g.To≤C.1 - 1)∧TOK x.2.2.2.2) (fun x=>x.1.toNat) (fun x hx=>?_) _ ⟨hk3.1,b1,b2,by show ((0:Nat):Int)+k3.1≤8;omega,by simp,hk3.2.2⟩) fun y3 h3=>?_
 ·obtain ⟨n,a,b,out,t⟩:=x
  obtain ⟨x1,x2,x3,x4,x5,x6⟩:=hx
  simp only at x1 x2 x3 x4 x5 x6
  subst x2 x3
  unfold F_5v
  dsimp only
  refine Ok.ite (fun c=>?_) fun c=>Ok.ret ⟨rfl,rfl,by show out.length≤8;omega,x5,x6⟩
  have c:0<n:=by simpa using c
  refine Ok.bind (next_ok x6 (by omega)) fun p hp=>Ok.bind (next_ok hp.2.2 (by omega)) fun q hq=>?_
  obtain ⟨p1,p2,_⟩:=hp
  obtain ⟨q1,q2,q3⟩:=hq
  refine Ok.chk (room_sm (by simp;omega)) (Ok.chk (in64_sm (by show _≤n - 1;omega) (by show n - 1≤_;omega)) (Ok.ret ?_))
  refine ⟨⟨by show 0≤n - 1;omega,rfl,rfl,by simp;omega,fun g hg=>?_,q3⟩,by show (n - 1).toNat<n.toNat;omega⟩
  simp only [wK,xF] at hg
  rcases hg with hg|rfl
  ·exact x5 g hg
  ·exact ⟨⟨p1,by show p.1≤C.1 - 1;omega⟩,q1,by show q.1≤C.1 - 1;omega⟩
 obtain ⟨d1,d2,d3,d4,d5⟩:=h3
 refine Ok.ret ?_
 refine ⟨⟨?_,?_,?_,?_,?_,?_,?_,fun g hg=>?_,fun s hs=>?_,fun m hm=>?_⟩,?_,?_,?_,?_,a3,d5,b3,d3⟩<;>simp only [d1,d2]
 all_goals try omega
 ·unfold gOK;simp only [d1,d2];exact a4 g hg
 ·unfold sOK;simp only [d1,d2];exact b4 s hs
 ·unfold mOK;simp only [d1,d2];exact d4 m hm
theorem rights_ok {t:GTape} (h:TOK t):Ok (F_1c t) fun y=>GoodR y.1∧1≤y.1.Credentials∧y.1.Credentials≤6∧1≤y.1.Resources∧y.1.Resources≤5∧y.1.Grants.length≤8∧TOK y.2 :=
 (rights_ok2 h).mono fun _ h=>⟨h.1,h.2.1,h.2.2.1,h.2.2.2.1,h.2.2.2.2.1,h.2.2.2.2.2.1,h.2.2.2.2.2.2.1⟩
theorem worths_ok {t:GTape} (h:TOK t) {n:Int} (h0:0≤n) (hn:n≤30):Ok (F_2c t n) fun y=>(y.1.length:Int)=n∧wOK y.1∧TOK y.2:=by
 unfold F_2c
 refine Ok.bind (Ok.loop (Q:=fun y:List Int×GTape=>(y.1.length:Int)=n∧wOK y.1∧TOK y.2) (fun x=>x.1=x.2.1.length∧x.1≤n∧wOK x.2.1∧TOK x.2.2) (fun x=>(n - x.1).toNat) (fun x hx=>?_) _ ⟨rfl,h0,by intro a ha;simp at ha,h⟩) fun r hr=>Ok.ret hr
 obtain ⟨i,out,t⟩:=x
 obtain ⟨x1,x2,x3,x4⟩:=hx
 simp only at x1 x2 x3 x4
 unfold F_5w
 refine Ok.ite (fun c=>?_) fun c=>Ok.ret ?_
 ·have c:i<n:=by simpa using c
  refine Ok.bind (pick_ok x4 (by simp)) fun p hp=>Ok.chk (room_sm (by simp;omega)) (Ok.chk (in64_sm (by show _≤i+1;omega) (by show i+1≤_;omega)) (Ok.ret ?_))
  refine ⟨⟨by simp;omega,by show i+1≤n;omega,fun a ha=>?_,hp.2⟩,by show (n - (i+1)).toNat<(n - i).toNat;omega⟩
  simp only [wK,xF] at ha
  rcases ha with ha|rfl
  ·exact x3 a ha
  ·have:=hp.1;simp at this;omega
 ·have c:¬i<n:=by simpa using c
  exact ⟨by show (out.length:Int)=n;omega,x3,x4⟩
end Go.Ab
